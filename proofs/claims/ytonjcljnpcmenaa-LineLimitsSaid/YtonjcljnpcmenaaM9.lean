/- Texts of this claim, one behind the other: lemmas for the statement. -/
import Derived.Test.YtonjcljnpcmenaaM8
import Derived.Test.YtonjcljnpcmenaaA27
import Derived.Test.YtonjcljnpcmenaaM6
/- Plain: digits compared, taken away, divided. No program in sight. -/
namespace Go.Proofs.Ytonjcljnpcmenaa
open Go Go.RowKit Go.Proofs
set_option linter.unusedSimpArgs false
set_option linter.unusedVariables false

theorem valD_split {ds : List Int} {i : Nat} (h : i < ds.length) : valD ds = valD (ds.take i) + 1000000000 ^ i * (ds.getD i default + 1000000000 * valD (ds.drop (i + 1))) := by
  have e1 := valD_app (ds.take i) (ds.drop i)
  rw [List.take_append_drop, List.length_take, Nat.min_eq_left (by omega), List.drop_eq_getElem_cons h, valD] at e1
  rw [e1, List.getD_eq_getElem?_getD, List.getElem?_eq_getElem h]; rfl
theorem drop_same {a b : List Int} (hl : a.length = b.length) {i : Nat} (h : ∀ q : Nat, i < q → q < a.length → a.getD q default = b.getD q default) : a.drop (i + 1) = b.drop (i + 1) := by
  refine List.ext_getElem? fun n => ?_
  rw [List.getElem?_drop, List.getElem?_drop]
  by_cases hn : i + 1 + n < a.length
  · have := h (i + 1 + n) (by omega) hn
    rw [List.getD_eq_getElem?_getD, List.getD_eq_getElem?_getD, List.getElem?_eq_getElem hn, List.getElem?_eq_getElem (by omega)] at this
    rw [List.getElem?_eq_getElem hn, List.getElem?_eq_getElem (by omega)]
    exact congrArg some this
  · rw [List.getElem?_eq_none (by omega), List.getElem?_eq_none (by omega)]
/-- The first digit from the top that is not the same. -/
theorem valD_less {a b : List Int} (ha : GD a) (hb : GD b) (hl : a.length = b.length) {i : Nat} (hi : i < a.length) (h : ∀ q : Nat, i < q → q < a.length → a.getD q default = b.getD q default) (hlt : a.getD i default < b.getD i default) : valD a < valD b := by
  rw [valD_split hi, valD_split (show i < b.length by omega), drop_same hl h]
  have h1 := valD_lt (ha.take i)
  rw [List.length_take, Nat.min_eq_left (by omega)] at h1
  have h2 := valD_nn (hb.take i)
  generalize valD (b.drop (i + 1)) = D at *
  have hp : (0 : Int) < 1000000000 ^ i := Int.pow_pos (by decide)
  have h3 := Int.mul_le_mul_of_nonneg_left (show a.getD i default + 1000000000 * D + 1 ≤ b.getD i default + 1000000000 * D by omega) (Int.le_of_lt hp)
  rw [Int.mul_add, Int.mul_one] at h3
  omega
theorem digN_mono {m n : Nat} (h : m ≤ n) : (digN m).length ≤ (digN n).length := by
  have h1 := valD_lt (digN_gd n)
  rw [digN_val] at h1
  have h2 : ((n : Nat) : Int) < ((1000000000 ^ (digN n).length : Nat) : Int) := by rw [Int.natCast_pow]; exact h1
  exact digN_len (Nat.lt_of_le_of_lt h (Int.ofNat_lt.1 h2))
theorem list_same {a b : List Int} (hl : a.length = b.length) (h : ∀ q : Nat, q < a.length → a.getD q default = b.getD q default) : a = b := by
  refine List.ext_getElem hl fun n h1 h2 => ?_
  have := h n h1
  rw [List.getD_eq_getElem?_getD, List.getD_eq_getElem?_getD, List.getElem?_eq_getElem h1, List.getElem?_eq_getElem h2] at this
  exact this
theorem getD_far {ds : List Int} {i : Nat} (h : ds.length ≤ i) : ds.getD i default = 0 := by rw [List.getD_eq_getElem?_getD, List.getElem?_eq_none h]; rfl
theorem valD_takeD {ds : List Int} {k : Nat} : valD (ds.take (k + 1)) = valD (ds.take k) + ds.getD k default * 1000000000 ^ k := by
  by_cases h : k < ds.length
  · exact valD_take h
  · rw [List.take_of_length_le (by omega), List.take_of_length_le (by omega), getD_far (by omega), Int.zero_mul, Int.add_zero]
theorem valD_push {ds : List Int} {i : Nat} (h : ds.length = i) (v : Int) : valD (ds ++ [v]) = valD ds + v * 1000000000 ^ i := by
  rw [valD_app, h, valD, valD, Int.mul_zero, Int.add_zero, Int.mul_comm]
/-- Less digits taken away: what is so far, and what was borrowed. -/
structure SB (a b o : List Int) (i : Nat) (w : Int) : Prop where
  len : o.length = i
  gd : GD o
  w01 : 0 ≤ w ∧ w ≤ 1
  v : valD o = valD (a.take i) - valD (b.take i) + w * 1000000000 ^ i
theorem SB.first (a b : List Int) : SB a b [] 0 0 := ⟨rfl, GD.nil, by omega, by simp [valD]⟩
theorem SB.next {a b o : List Int} {i : Nat} {w x y : Int} (h : SB a b o i w) (ha : GD a) (hb : GD b) (hx : x = a.getD i default - b.getD i default - w + y * 1000000000) (hy : 0 ≤ y ∧ y ≤ 1) (hr : 0 ≤ x ∧ x < 1000000000) : SB a b (o ++ [x]) (i + 1) y := by
  refine ⟨by simp [h.len], h.gd.app (GD.one hr), hy, ?_⟩
  rw [valD_push h.len, h.v, valD_takeD, valD_takeD, Int.pow_succ, hx]
  generalize (1000000000 : Int) ^ i = P
  rw [Int.add_mul, Int.sub_mul, Int.sub_mul, Int.mul_comm P, ← Int.mul_assoc]
  omega
theorem SB.done {m n : Nat} {o : List Int} {w : Int} (h : SB (digN m) (digN n) o (digN m).length w) (hmn : n ≤ m) : (valD o).toNat = m - n := by
  have hv := h.v
  rw [List.take_length, List.take_of_length_le (digN_mono hmn), digN_val, digN_val] at hv
  have h1 := valD_lt h.gd
  rw [h.len] at h1
  have h2 := h.w01
  rcases (show w = 0 ∨ w = 1 by omega) with rfl | rfl <;> omega
/-- Digits added. -/
structure AD (a b o : List Int) (i : Nat) (w : Int) : Prop where
  len : o.length = i
  gd : GD o
  w01 : 0 ≤ w ∧ w ≤ 1
  v : valD o + w * 1000000000 ^ i = valD (a.take i) + valD (b.take i)
theorem AD.first (a b : List Int) : AD a b [] 0 0 := ⟨rfl, GD.nil, by omega, by simp [valD]⟩
theorem AD.next {a b o : List Int} {i : Nat} {w x : Int} (h : AD a b o i w) (ha : GD a) (hb : GD b) (hx : x = a.getD i default + b.getD i default + w) : AD a b (o ++ [x % 1000000000]) (i + 1) (x / 1000000000) := by
  have h1 := ha.at i
  have h2 := hb.at i
  have h3 := h.w01
  refine ⟨by simp [h.len], h.gd.app (GD.one (by omega)), by omega, ?_⟩
  have hv := h.v
  rw [valD_push h.len, valD_takeD, valD_takeD, Int.pow_succ]
  generalize (1000000000 : Int) ^ i = P at *
  have e1 : x / 1000000000 * (P * 1000000000) = (x - x % 1000000000) * P := by
    rw [Int.mul_comm P, ← Int.mul_assoc, show x / 1000000000 * 1000000000 = x - x % 1000000000 by omega]
  rw [e1, hx, Int.sub_mul, Int.add_mul, Int.add_mul]
  omega
theorem AD.done {a b o : List Int} {i : Nat} (h : AD a b o i 0) (ha : a.length ≤ i) (hb : b.length ≤ i) : valD o = valD a + valD b := by
  have hv := h.v
  rw [List.take_of_length_le ha, List.take_of_length_le hb] at hv
  omega
/-- A quotient, digit by digit from the top. -/
structure WF (a : List Int) (b : Int) (q : List Int) (i : Nat) (r : Int) : Prop where
  len : q.length = a.length
  gd : GD q
  r0 : 0 ≤ r ∧ r < b
  v : valD (a.drop i) = valD (q.drop i) * b + r
theorem WF.first {a : List Int} {b : Int} (hb : 0 < b) : WF a b (List.replicate a.length 0) a.length 0 := by
  refine ⟨by simp, GD.rep _, by omega, ?_⟩
  rw [List.drop_of_length_le (by omega), List.drop_of_length_le (by simp)]; simp [valD]
theorem WF.next {a q : List Int} {b r d x : Int} {i : Nat} (h : WF a b q (i + 1) r) (hi : i < a.length) (hd : d = a.getD i default + 1000000000 * r) (hx : 0 ≤ x ∧ x < 1000000000) (hr : 0 ≤ d - b * x ∧ d - b * x < b) : WF a b (q.set i x) i (d - b * x) := by
  have hv := h.v
  have hq : i < q.length := by rw [h.len]; exact hi
  refine ⟨by rw [List.length_set]; exact h.len, h.gd.set _ hx, hr, ?_⟩
  have e2 : (q.set i x).drop i = x :: q.drop (i + 1) := by
    rw [List.drop_eq_getElem_cons (by rw [List.length_set]; exact hq), List.getElem_set_self, List.drop_set_of_lt (by omega)]
  rw [e2, List.drop_eq_getElem_cons hi, valD, valD, hv, Int.add_mul, hd, List.getD_eq_getElem?_getD, List.getElem?_eq_getElem hi, Int.mul_add, Int.mul_assoc, Int.mul_comm b x]
  simp only [Option.getD_some]
  omega
theorem WF.done {a q : List Int} {b r : Int} (h : WF a b q 0 r) : valD q = valD a / b := by
  have hv := h.v
  rw [List.drop_zero, List.drop_zero] at hv
  have := h.r0
  rw [hv, Int.add_comm, Int.add_mul_ediv_right _ _ (by omega), Int.ediv_eq_zero_of_lt this.1 this.2, Int.zero_add]
theorem valD_top {n : Nat} {i : Nat} (h : i < (digN n).length) : valD ((digN n).drop i) = (digN n).getD i default + 1000000000 * valD ((digN n).drop (i + 1)) := by
  rw [List.drop_eq_getElem_cons h, valD, List.getD_eq_getElem?_getD, List.getElem?_eq_getElem h]; rfl
end Go.Proofs.Ytonjcljnpcmenaa

/- Contracts: wide numbers multiplied, compared, taken away. No conditions on a program. -/
namespace Go.Proofs.Ytonjcljnpcmenaa
open Go Go.RowKit Go.Proofs
set_option linter.unusedSimpArgs false
set_option linter.unusedVariables false
theorem y51_az145 : (Try.prog.info? 145).bind (·.zero) = some (.agg #[.int .i64 0, .slice none 0 0]) := by kernel_rfl
theorem y51_fl145_0 : FldIs Try.prog 145 0 0 false 1 := by unfold FldIs; kernel_rfl
theorem y51_fl145_1 : FldIs Try.prog 145 1 1 false 1 := by unfold FldIs; kernel_rfl
theorem y51_hcf140 : ∀ args w, (callFunc 140 args).run Try.prog w = .ok (.enter 140 args) w := fun _ _ => by kernel_rfl
theorem y51_sl49 : SlIs Try.prog 49 3 1 8 (.int .i64 0) := ⟨by kernel_rfl, by kernel_rfl, by kernel_rfl⟩
theorem y51_sz145 : (Try.prog.info? 145).map (·.size) = some 2 := by kernel_rfl
theorem y51_sz3 : (Try.prog.info? 3).map (·.size) = some 1 := by kernel_rfl
theorem y51_ty145 : TyIs Try.prog 145 true 2 := ⟨by kernel_rfl, by kernel_rfl⟩
theorem y51_ty3 : TyIs Try.prog 3 false 1 := ⟨by kernel_rfl, by kernel_rfl⟩
theorem y51_ty49 : TyIs Try.prog 49 false 1 := ⟨by kernel_rfl, by kernel_rfl⟩

theorem sgn_mul (a b : Int) : sgnV a * sgnV b = sgnV (a * b) := by
  unfold sgnV
  rcases Int.lt_trichotomy a 0 with ha | ha | ha <;> rcases Int.lt_trichotomy b 0 with hb | hb | hb
  · have := Int.mul_pos_of_neg_of_neg ha hb; (repeat' split) <;> omega
  · subst hb; simp
  · have := Int.mul_neg_of_neg_of_pos ha hb; (repeat' split) <;> omega
  · subst ha; simp
  · subst ha; simp
  · subst ha; simp
  · have := Int.mul_neg_of_pos_of_neg ha hb; (repeat' split) <;> omega
  · subst hb; simp
  · have := Int.mul_pos ha hb; (repeat' split) <;> omega
theorem sgn_bd (a : Int) : -1 ≤ sgnV a ∧ sgnV a ≤ 1 := by unfold sgnV; (repeat' split) <;> omega
theorem wA_of {a : Int} {v : Int} (h : v = a.natAbs) : AV.agg [mA (if v = 0 then 0 else sgnV a), dA v.toNat] = wA a := by
  subst h
  rw [Int.toNat_natCast]
  unfold wA
  by_cases h0 : a = 0
  · subst h0; rfl
  · rw [if_neg (by omega)]
set_option maxRecDepth 100000 in
set_option maxHeartbeats 4000000 in
theorem widMul_ok (a b : Int) (ha : (digN a.natAbs).length ≤ 1000) (hb : (digN b.natAbs).length ≤ 1000) : FnOk Try.prog 87 [wA a, wA b] (fun q => q = wA (a * b)) := by
  refine fnOk_of (fn := Try.f87) 86 (by kernel_rfl) rfl (by kernel_rfl) (Nat.le_of_ble_eq_true rfl) ?_
  intro e_0 m_0 hA hm_0
  have s0_0 : evA e_0 (.tmp 0) = _ := hA 0 _ rfl
  have s1_0 : evA e_0 (.tmp 1) = _ := hA 1 _ rfl
  have ml_0 : m_0.length = 0 := by rw [hm_0]; rfl
  clear hA hm_0
  have ga := digN_gd a.natAbs; have gb := digN_gd b.natAbs; have va := digN_val a.natAbs; have vb := digN_val b.natAbs; have sa := sgn_bd a; have sb := sgn_bd b; have sm := sgn_bd (a * b); have se := sgn_mul a b; have w0 : WM (digN a.natAbs) (digN b.natAbs) (List.replicate (((digN a.natAbs).length : Int) + ((digN b.natAbs).length : Int) + 1).toNat 0) 0 0 0 := (by rw [show (((digN a.natAbs).length : Int) + ((digN b.natAbs).length : Int) + 1).toNat = (digN a.natAbs).length + (digN b.natAbs).length + 1 by omega]; exact WM.first)
  refine aw_seq <| at_ <| al_stm (st_box s0_0 rfl ml_0) trivial rfl (fun m_1 hm_1 => ?_)
  have mo0_1 := m_push hm_1 ml_0
  have ml_1 := m_push_l hm_1 ml_0
  have ml_1 : _ = 1 := ml_1
  clear hm_1
  refine al_stm (st_box (up_m rfl s1_0) rfl ml_1) trivial rfl (fun m_2 hm_2 => ?_)
  have mo1_2 := m_push hm_2 ml_1
  have mo0_2 := m_push_o hm_2 mo0_1
  have ml_2 := m_push_l hm_2 ml_1
  have ml_2 : _ = 2 := ml_2
  clear hm_2 mo0_1
  refine al_stm (st_alloc y51_az145 rfl ml_2) trivial rfl (fun m_3 hm_3 => ?_)
  have mo2_3 := m_push hm_3 ml_2
  simp only [pS, Value.cells, Nat.reduceAdd, iE, set_iE, rep_iE] at mo2_3
  have mo1_3 := m_push_o hm_3 mo1_2
  have mo0_3 := m_push_o hm_3 mo0_2
  have ml_3 := m_push_l hm_3 ml_2
  have ml_3 : _ = 3 := ml_3
  clear hm_3 mo1_2 mo0_2
  refine ae3 (u2 rfl up_h) (up_m rfl up_h) up_h ?_; clear s0_0 s1_0; intro e_4 s2_4 s3_4 s4_4
  refine then_n <| aw_seq <| at_ <| ar (ro_fld_ptr y51_fl145_1 rfl s2_4) rfl <| ar (ro_eq (ro_ld_ptr y51_ty49 rfl mo0_3 up_h (nle rfl)) (by simp only [pS, Value.cells, Nat.reduceAdd, iE, set_iE, rep_iE] <;> rfl)) rfl ?_
  refine ar (ro_eq (ro_len_row up_h rfl y51_sl49.1) (by simp only [lnS] <;> rfl)) rfl ?_
  refine ar (ro_fld_ptr y51_fl145_1 rfl (up_m rfl (u2 rfl s3_4))) rfl <| ar (ro_eq (ro_ld_ptr y51_ty49 rfl mo1_3 up_h (nle rfl)) (by simp only [pS, Value.cells, Nat.reduceAdd, iE, set_iE, rep_iE] <;> rfl)) rfl ?_
  refine ar (ro_eq (ro_len_row up_h rfl y51_sl49.1) (by simp only [lnS] <;> rfl)) rfl ?_
  (refine ar (ro_add' (up_m rfl (u2 rfl up_h)) up_h ?_) rfl ?_; · (unfold In64; omega))
  (refine ar (ro_add' up_h ev_c ?_) rfl ?_; · (unfold In64; omega))
  refine al_stm (st_mk y51_sl49 rfl rfl ml_3 up_h up_h (by omega) (by omega)) trivial rfl (fun m_5 hm_5 => ?_)
  have mo3_5 := m_push hm_5 ml_3
  simp only [pS, Value.cells, Nat.reduceAdd, iE, set_iE, rep_iE] at mo3_5
  have mo2_5 := m_push_o hm_5 mo2_3
  have mo1_5 := m_push_o hm_5 mo1_3
  have mo0_5 := m_push_o hm_5 mo0_3
  have ml_5 := m_push_l hm_5 ml_3
  have ml_5 : _ = 4 := ml_5
  clear hm_5 mo2_3 mo1_3 mo0_3
  refine ar (ro_assign up_h) rfl <| ae4 (u2 rfl (u8 rfl s2_4)) (u2 rfl (u8 rfl s3_4)) (u2 rfl (u8 rfl s4_4)) up_h ?_; clear s2_4 s3_4 s4_4; intro e_6 s2_6 s3_6 s4_6 s5_6
  refine then_n <| aw_seq <| aw_seq <| at_ <| ar (ro_assign ev_c) rfl <| ae5 (up_m rfl s2_6) (up_m rfl s3_6) (up_m rfl s4_6) (up_m rfl s5_6) up_h ?_; clear s2_6 s3_6 s4_6 s5_6; intro e_7 s2_7 s3_7 s4_7 s5_7 s6_7
  refine then_n <| aw_block <| aw_loop (S := (Int × List Int)) (fun s e mem => match s with | ⟨i, xs⟩ => (evA e (.tmp 6) = .v (.int .i64 i)) ∧ (evA e (.tmp 2) = evA e_7 (.tmp 2)) ∧ (evA e (.tmp 3) = evA e_7 (.tmp 3)) ∧ (evA e (.tmp 4) = evA e_7 (.tmp 4)) ∧ (evA e (.tmp 5) = evA e_7 (.tmp 5)) ∧ (mem[3]? = some (.row 3 1 (xs.map iE))) ∧ (mem[2]? = m_5[2]?) ∧ (mem[1]? = m_5[1]?) ∧ (mem[0]? = m_5[0]?) ∧ (mem.length = 4) ∧ ((0 ≤ i ∧ i ≤ (digN a.natAbs).length ∧ WM (digN a.natAbs) (digN b.natAbs) xs i.toNat 0 0))) (fun s => match s with | ⟨i, xs⟩ => ((digN a.natAbs).length - i).toNat) ⟨_, _⟩ ⟨s6_7, rfl, rfl, rfl, rfl, mo3_5, rfl, rfl, rfl, ml_5, ?_⟩ ?_
  · (exact ⟨by omega, by omega, w0⟩)
  · rintro ⟨i, xs⟩ e_8 m_8 ⟨s6_8, k2_8, k3_8, k4_8, k5_8, mo3_8, mk2_8, mk1_8, mk0_8, ml_8, hinv⟩
    have s2_8 := k2_8.trans s2_7
    have s3_8 := k3_8.trans s3_7
    have s4_8 := k4_8.trans s4_7
    have s5_8 := k5_8.trans s5_7
    have mo2_8 := mk2_8.trans mo2_5
    have mo1_8 := mk1_8.trans mo1_5
    have mo0_8 := mk0_8.trans mo0_5
    (obtain ⟨p1, p2, p3⟩ := hinv; have pl := p3.len)
    refine aw_seq <| aw_seq <| at_ <| ar (ro_move s6_8) rfl <| ar (ro_fld_ptr y51_fl145_1 rfl (up_m rfl s2_8)) rfl <| ar (ro_eq (ro_ld_ptr y51_ty49 rfl mo0_8 up_h (nle rfl)) (by simp only [pS, Value.cells, Nat.reduceAdd, iE, set_iE, rep_iE] <;> rfl)) rfl ?_
    refine ar (ro_eq (ro_len_row up_h rfl y51_sl49.1) (by simp only [lnS] <;> rfl)) rfl ?_
    refine ar (ro_lss (up_m rfl (u2 rfl up_h)) up_h) rfl <| ae6 (up_m rfl (u4 rfl s2_8)) (up_m rfl (u4 rfl s3_8)) (up_m rfl (u4 rfl s4_8)) (up_m rfl (u4 rfl s5_8)) (up_m rfl (u4 rfl s6_8)) up_h ?_; clear s2_8 s3_8 s4_8 s5_8 s6_8; intro e_9 s2_9 s3_9 s4_9 s5_9 s6_9 s23_9
    refine then_n <| aw_case s23_9 (fun hq_10 => ?_) (fun hq_10 => ?_)
    ·replace hq_10 := bt hq_10
     refine aw_skip <| then_n <| aw_seq <| aw_block <| aw_seq <| at_ <| ar (ro_assign ev_c) rfl <| ae6 (up_m rfl s2_9) (up_m rfl s3_9) (up_m rfl s4_9) (up_m rfl s5_9) (up_m rfl s6_9) up_h ?_; clear s23_9 s2_9 s3_9 s4_9 s5_9 s6_9; intro e_11 s2_11 s3_11 s4_11 s5_11 s6_11 s7_11
     refine then_n <| aw_seq <| aw_seq <| at_ <| ar (ro_assign ev_c) rfl <| ae7 (up_m rfl s2_11) (up_m rfl s3_11) (up_m rfl s4_11) (up_m rfl s5_11) (up_m rfl s6_11) (up_m rfl s7_11) up_h ?_; clear s2_11 s3_11 s4_11 s5_11 s6_11 s7_11; intro e_12 s2_12 s3_12 s4_12 s5_12 s6_12 s7_12 s8_12
     refine then_n <| aw_block <| aw_loop (S := (Int × Int × List Int)) (fun s e mem => match s with | ⟨k, c, ys⟩ => (evA e (.tmp 8) = .v (.int .i64 k)) ∧ (evA e (.tmp 7) = .v (.int .i64 c)) ∧ (evA e (.tmp 2) = evA e_12 (.tmp 2)) ∧ (evA e (.tmp 3) = evA e_12 (.tmp 3)) ∧ (evA e (.tmp 4) = evA e_12 (.tmp 4)) ∧ (evA e (.tmp 5) = evA e_12 (.tmp 5)) ∧ (evA e (.tmp 6) = evA e_12 (.tmp 6)) ∧ (mem[3]? = some (.row 3 1 (ys.map iE))) ∧ (mem[2]? = m_8[2]?) ∧ (mem[1]? = m_8[1]?) ∧ (mem[0]? = m_8[0]?) ∧ (mem.length = 4) ∧ ((0 ≤ k ∧ k ≤ (digN b.natAbs).length ∧ WM (digN a.natAbs) (digN b.natAbs) ys i.toNat k.toNat c))) (fun s => match s with | ⟨k, c, ys⟩ => ((digN b.natAbs).length - k).toNat) ⟨_, _, _⟩ ⟨s8_12, s7_12, rfl, rfl, rfl, rfl, rfl, mo3_8, rfl, rfl, rfl, ml_8, ?_⟩ ?_
     · (exact ⟨by omega, by omega, p3⟩)
     · rintro ⟨k, c, ys⟩ e_13 m_13 ⟨s8_13, s7_13, k2_13, k3_13, k4_13, k5_13, k6_13, mo3_13, mk2_13, mk1_13, mk0_13, ml_13, hinv⟩
       have s2_13 := k2_13.trans s2_12
       have s3_13 := k3_13.trans s3_12
       have s4_13 := k4_13.trans s4_12
       have s5_13 := k5_13.trans s5_12
       have s6_13 := k6_13.trans s6_12
       have mo2_13 := mk2_13.trans mo2_8
       have mo1_13 := mk1_13.trans mo1_8
       have mo0_13 := mk0_13.trans mo0_8
       (obtain ⟨k1, k2, k3⟩ := hinv; have kb := k3.bd ga gb; have kl := k3.len; have kc := k3.cb; have kg := k3.gd.at (i + k).toNat; rw [show i.toNat + k.toNat = (i + k).toNat by omega] at kb; have e1 := Int.tdiv_eq_ediv_of_nonneg kb.2.1 (b := 1000000000); have e2 := Int.tmod_eq_emod_of_nonneg kb.2.1 (b := 1000000000))
       refine aw_seq <| aw_seq <| at_ <| ar (ro_move s8_13) rfl <| ar (ro_fld_ptr y51_fl145_1 rfl (up_m rfl s3_13)) rfl <| ar (ro_eq (ro_ld_ptr y51_ty49 rfl mo1_13 up_h (nle rfl)) (by simp only [pS, Value.cells, Nat.reduceAdd, iE, set_iE, rep_iE] <;> rfl)) rfl ?_
       refine ar (ro_eq (ro_len_row up_h rfl y51_sl49.1) (by simp only [lnS] <;> rfl)) rfl ?_
       refine ar (ro_lss (up_m rfl (u2 rfl up_h)) up_h) rfl <| ae8 (up_m rfl (u4 rfl s2_13)) (up_m rfl (u4 rfl s3_13)) (up_m rfl (u4 rfl s4_13)) (up_m rfl (u4 rfl s5_13)) (up_m rfl (u4 rfl s6_13)) (up_m rfl (u4 rfl s7_13)) (up_m rfl (u4 rfl s8_13)) up_h ?_; clear s2_13 s3_13 s4_13 s5_13 s6_13 s7_13 s8_13; intro e_14 s2_14 s3_14 s4_14 s5_14 s6_14 s7_14 s8_14 s30_14
       refine then_n <| aw_case s30_14 (fun hq_15 => ?_) (fun hq_15 => ?_)
       ·replace hq_15 := bt hq_15
        refine aw_skip <| then_n <| aw_seq <| aw_block <| aw_seq <| aw_draw 21 (by kernel_rfl) (by kernel_rfl) (by kernel_rfl) (by kernel_rfl) ?_
        refine dr (ro_move s5_14) rfl <| dr (ro_move (up_m rfl s6_14)) rfl <| dr (ro_move (u2 rfl s8_14)) rfl ?_
        (refine dr (ro_add' (up_m rfl up_h) up_h ?_) rfl ?_; · (unfold In64; omega))
        refine dr (ro_ix_own y51_sl49 mo3_13 (up_m rfl (u2 rfl up_h)) up_h (by omega) (by simp only [lnS] <;> omega)) rfl ?_
        refine dr (ro_eq (ro_ld_el y51_ty3 rfl mo3_13 up_h (nle rfl) (by first | (refine idx_map ?_; first | omega | (simp only [lnS]; omega)) | (refine idx_mapI ?_; first | omega | (simp only [lnS]; omega)) | (refine idx_mapN ?_; first | omega | (simp only [lnS]; omega)) | rfl)) (by simp only [pS, Value.cells, Nat.reduceAdd, iE, set_iE, rep_iE] <;> rfl)) rfl ?_
        refine dr (ro_fld_ptr y51_fl145_1 rfl (u2 rfl (u4 rfl s2_14))) rfl <| dr (ro_eq (ro_ld_ptr y51_ty49 rfl mo0_13 up_h (nle rfl)) (by simp only [pS, Value.cells, Nat.reduceAdd, iE, set_iE, rep_iE] <;> rfl)) rfl ?_
        refine dr (ro_move (u8 rfl s6_14)) rfl <| dr (ro_eq (ro_ix y51_sl49 (up_m rfl up_h) up_h (by omega) (by first | (refine idx_map ?_; first | omega | (simp only [lnS]; omega)) | (refine idx_mapI ?_; first | omega | (simp only [lnS]; omega)) | (refine idx_mapN ?_; first | omega | (simp only [lnS]; omega)) | rfl)) (by simp only [pS, Value.cells, Nat.reduceAdd, iE, set_iE, rep_iE] <;> rfl)) rfl ?_
        refine dr (ro_eq (ro_ld_ref y51_ty3 rfl up_h (nle rfl)) (by simp only [pS, Value.cells, Nat.reduceAdd, iE, set_iE, rep_iE] <;> rfl)) rfl ?_
        refine dr (ro_fld_ptr y51_fl145_1 rfl (up_m rfl (u2 rfl (u8 rfl s3_14)))) rfl <| dr (ro_eq (ro_ld_ptr y51_ty49 rfl mo1_13 up_h (nle rfl)) (by simp only [pS, Value.cells, Nat.reduceAdd, iE, set_iE, rep_iE] <;> rfl)) rfl ?_
        refine dr (ro_move (up_m rfl (u4 rfl (u8 rfl s8_14)))) rfl <| dr (ro_eq (ro_ix y51_sl49 (up_m rfl up_h) up_h (by omega) (by first | (refine idx_map ?_; first | omega | (simp only [lnS]; omega)) | (refine idx_mapI ?_; first | omega | (simp only [lnS]; omega)) | (refine idx_mapN ?_; first | omega | (simp only [lnS]; omega)) | rfl)) (by simp only [pS, Value.cells, Nat.reduceAdd, iE, set_iE, rep_iE] <;> rfl)) rfl ?_
        refine dr (ro_eq (ro_ld_ref y51_ty3 rfl up_h (nle rfl)) (by simp only [pS, Value.cells, Nat.reduceAdd, iE, set_iE, rep_iE] <;> rfl)) rfl ?_
        (refine dr (ro_mul' (up_m rfl (u4 rfl up_h)) up_h ?_) rfl ?_; · (unfold In64; omega))
        (refine dr (ro_add' (up_m rfl (u2 rfl (u8 rfl up_h))) up_h ?_) rfl ?_; · (unfold In64; omega))
        refine dr (ro_move (u2 rfl (u16 rfl s7_14))) rfl ?_
        (refine dr (ro_add' (up_m rfl up_h) up_h ?_) rfl ?_; · (unfold In64; omega))
        refine dr (ro_assign up_h) rfl <| ds_nil <| ae7 (up_m rfl (u4 rfl (u16 rfl s2_14))) (up_m rfl (u4 rfl (u16 rfl s3_14))) (up_m rfl (u4 rfl (u16 rfl s4_14))) (up_m rfl (u4 rfl (u16 rfl s5_14))) (up_m rfl (u4 rfl (u16 rfl s6_14))) (up_m rfl (u4 rfl (u16 rfl s8_14))) up_h ?_; clear s2_14 s30_14 s3_14 s4_14 s5_14 s6_14 s7_14 s8_14; intro e_16 s2_16 s3_16 s4_16 s5_16 s6_16 s8_16 s9_16
        refine then_n <| at_ <| ar (ro_move s5_16) rfl <| ar (ro_move (up_m rfl s6_16)) rfl <| ar (ro_move (u2 rfl s8_16)) rfl ?_
        (refine ar (ro_add' (up_m rfl up_h) up_h ?_) rfl ?_; · (unfold In64; omega))
        refine ar (ro_move (u4 rfl s9_16)) rfl <| ar (ro_rem up_h ev_c (by decide)) rfl ?_
        refine ar (ro_move (u2 rfl (u4 rfl s9_16))) rfl ?_
        (refine ar (ro_quo' up_h ev_c (by decide) ?_) rfl ?_; · (unfold In64; omega))
        refine ar (ro_ix_own y51_sl49 mo3_13 (up_m rfl (u2 rfl (u4 rfl up_h))) (u4 rfl up_h) (by omega) (by simp only [lnS] <;> omega)) rfl ?_
        refine al_stm (st_store_el up_h (up_m rfl (u2 rfl up_h)) rfl rfl rfl mo3_13 (Nat.add_zero _).symm (by first | (refine idx_map ?_; first | omega | (simp only [lnS]; omega)) | (refine idx_mapI ?_; first | omega | (simp only [lnS]; omega)) | (refine idx_mapN ?_; first | omega | (simp only [lnS]; omega)) | rfl) y51_sz3 rfl (nle rfl)) trivial rfl (fun m_17 hm_17 => ?_)
        have mo3_17 := m_set hm_17 mo3_13
        simp only [pS, Value.cells, Nat.reduceAdd, iE, set_iE, rep_iE] at mo3_17
        have mo2_17 := m_set_o hm_17 mo2_13 (by decide)
        have mo1_17 := m_set_o hm_17 mo1_13 (by decide)
        have mo0_17 := m_set_o hm_17 mo0_13 (by decide)
        have ml_17 := m_set_l hm_17 ml_13
        clear hm_17 mo3_13 mo2_13 mo1_13 mo0_13
        refine ar (ro_assign (up_n (up_m rfl up_h))) rfl <| ae7 (up_m rfl (up_n (up_m rfl (u8 rfl s2_16)))) (up_m rfl (up_n (up_m rfl (u8 rfl s3_16)))) (up_m rfl (up_n (up_m rfl (u8 rfl s4_16)))) (up_m rfl (up_n (up_m rfl (u8 rfl s5_16)))) (up_m rfl (up_n (up_m rfl (u8 rfl s6_16)))) up_h (up_m rfl (up_n (up_m rfl (u8 rfl s8_16)))) ?_; clear s2_16 s3_16 s4_16 s5_16 s6_16 s8_16 s9_16; intro e_18 s2_18 s3_18 s4_18 s5_18 s6_18 s7_18 s8_18
        refine block_n <| then_n <| at_ <| ar (ro_move s8_18) rfl ?_
        (refine ar (ro_add' up_h ev_c ?_) rfl ?_; · (unfold In64; omega))
        refine ar (ro_assign up_h) rfl <| ae7 (up_m rfl (u2 rfl s2_18)) (up_m rfl (u2 rfl s3_18)) (up_m rfl (u2 rfl s4_18)) (up_m rfl (u2 rfl s5_18)) (up_m rfl (u2 rfl s6_18)) (up_m rfl (u2 rfl s7_18)) up_h ?_; clear s2_18 s3_18 s4_18 s5_18 s6_18 s7_18 s8_18; intro e_19 s2_19 s3_19 s4_19 s5_19 s6_19 s7_19 s8_19
        refine then_n <| ⟨⟨_, _, _⟩, ⟨s8_19, s7_19, (s2_19.trans s2_12.symm), (s3_19.trans s3_12.symm), (s4_19.trans s4_12.symm), (s5_19.trans s5_12.symm), (s6_19.trans s6_12.symm), mo3_17, (mo2_17.trans mo2_8.symm), (mo1_17.trans mo1_8.symm), (mo0_17.trans mo0_8.symm), ml_17, ?_⟩, ?_⟩
        · (refine ⟨by omega, by omega, ?_⟩; rw [e1, e2, show (k + 1).toNat = k.toNat + 1 by omega]; have hs := k3.step ga gb (by omega) (by omega) rfl; rw [show i.toNat + k.toNat = (i + k).toNat by omega] at hs; exact hs)
        · ((try dsimp only); omega)
       replace hq_15 := bf hq_15
       (have hk : k.toNat = (digN b.natAbs).length := (by omega); have k4 := k3; rw [hk] at k4; have kz := k3.z (i + ((digN b.natAbs).length : Int)).toNat (by omega))
       refine aw_exit <| then_x <| then_x <| block_hit <| then_n <| aw_draw 17 (by kernel_rfl) (by kernel_rfl) (by kernel_rfl) (by kernel_rfl) ?_
       refine dr (ro_move s5_14) rfl <| dr (ro_move (up_m rfl s6_14)) rfl <| dr (ro_fld_ptr y51_fl145_1 rfl (u2 rfl s3_14)) rfl <| dr (ro_eq (ro_ld_ptr y51_ty49 rfl mo1_13 up_h (nle rfl)) (by simp only [pS, Value.cells, Nat.reduceAdd, iE, set_iE, rep_iE] <;> rfl)) rfl ?_
       refine dr (ro_eq (ro_len_row up_h rfl y51_sl49.1) (by simp only [lnS] <;> rfl)) rfl ?_
       (refine dr (ro_add' (up_m rfl (u2 rfl up_h)) up_h ?_) rfl ?_; · (unfold In64; omega))
       refine dr (ro_move (u2 rfl (u4 rfl s5_14))) rfl <| dr (ro_move (up_m rfl (u2 rfl (u4 rfl s6_14)))) rfl <| dr (ro_fld_ptr y51_fl145_1 rfl (u8 rfl s3_14)) rfl <| dr (ro_eq (ro_ld_ptr y51_ty49 rfl mo1_13 up_h (nle rfl)) (by simp only [pS, Value.cells, Nat.reduceAdd, iE, set_iE, rep_iE] <;> rfl)) rfl ?_
       refine dr (ro_eq (ro_len_row up_h rfl y51_sl49.1) (by simp only [lnS] <;> rfl)) rfl ?_
       (refine dr (ro_add' (up_m rfl (u2 rfl up_h)) up_h ?_) rfl ?_; · (unfold In64; omega))
       refine dr (ro_ix_own y51_sl49 mo3_13 (up_m rfl (u4 rfl up_h)) up_h (by omega) (by simp only [lnS] <;> omega)) rfl ?_
       refine dr (ro_eq (ro_ld_el y51_ty3 rfl mo3_13 up_h (nle rfl) (by first | (refine idx_map ?_; first | omega | (simp only [lnS]; omega)) | (refine idx_mapI ?_; first | omega | (simp only [lnS]; omega)) | (refine idx_mapN ?_; first | omega | (simp only [lnS]; omega)) | rfl)) (by simp only [pS, Value.cells, Nat.reduceAdd, iE, set_iE, rep_iE] <;> rfl)) rfl ?_
       refine dr (ro_move (u2 rfl (u4 rfl (u8 rfl s7_14)))) rfl ?_
       (refine dr (ro_add' (up_m rfl up_h) up_h ?_) rfl ?_; · (unfold In64; omega))
       refine dr (ro_ix_own y51_sl49 mo3_13 (up_m rfl (u2 rfl (u4 rfl (u8 rfl up_h)))) (u2 rfl (u8 rfl up_h)) (by omega) (by simp only [lnS] <;> omega)) rfl ?_
       refine ds_nil <| al_stm (st_store_el up_h (up_m rfl up_h) rfl rfl rfl mo3_13 (Nat.add_zero _).symm (by first | (refine idx_map ?_; first | omega | (simp only [lnS]; omega)) | (refine idx_mapI ?_; first | omega | (simp only [lnS]; omega)) | (refine idx_mapN ?_; first | omega | (simp only [lnS]; omega)) | rfl) y51_sz3 rfl (nle rfl)) trivial rfl (fun m_20 hm_20 => ?_)
       have mo3_20 := m_set hm_20 mo3_13
       simp only [pS, Value.cells, Nat.reduceAdd, iE, set_iE, rep_iE] at mo3_20
       have mo2_20 := m_set_o hm_20 mo2_13 (by decide)
       have mo1_20 := m_set_o hm_20 mo1_13 (by decide)
       have mo0_20 := m_set_o hm_20 mo0_13 (by decide)
       have ml_20 := m_set_l hm_20 ml_13
       clear hm_20 mo3_13 mo2_13 mo1_13 mo0_13
       refine ae5 (up_n (up_m rfl (u16 rfl s2_14))) (up_n (up_m rfl (u16 rfl s3_14))) (up_n (up_m rfl (u16 rfl s4_14))) (up_n (up_m rfl (u16 rfl s5_14))) (up_n (up_m rfl (u16 rfl s6_14))) ?_; clear s2_14 s30_14 s3_14 s4_14 s5_14 s6_14 s7_14 s8_14; intro e_21 s2_21 s3_21 s4_21 s5_21 s6_21
       refine block_n <| then_n <| at_ <| ar (ro_move s6_21) rfl ?_
       (refine ar (ro_add' up_h ev_c ?_) rfl ?_; · (unfold In64; omega))
       refine ar (ro_assign up_h) rfl <| ae5 (up_m rfl (u2 rfl s2_21)) (up_m rfl (u2 rfl s3_21)) (up_m rfl (u2 rfl s4_21)) (up_m rfl (u2 rfl s5_21)) up_h ?_; clear s2_21 s3_21 s4_21 s5_21 s6_21; intro e_22 s2_22 s3_22 s4_22 s5_22 s6_22
       refine then_n <| ⟨⟨_, _⟩, ⟨s6_22, (s2_22.trans s2_7.symm), (s3_22.trans s3_7.symm), (s4_22.trans s4_7.symm), (s5_22.trans s5_7.symm), mo3_20, (mo2_20.trans mo2_5.symm), (mo1_20.trans mo1_5.symm), (mo0_20.trans mo0_5.symm), ml_20, ?_⟩, ?_⟩
       · (refine ⟨by omega, by omega, ?_⟩; have hn := k4.next (by omega); rw [show i.toNat + (digN b.natAbs).length = (i + ((digN b.natAbs).length : Int)).toNat by omega] at hn; rw [show (i + 1).toNat = i.toNat + 1 by omega]; exact hn)
       · ((try dsimp only); omega)
    replace hq_10 := bf hq_10
    (have hi : i.toNat = (digN a.natAbs).length := (by omega); have p4 := p3; rw [hi] at p4; have hv : valD xs = ((a * b).natAbs : Int) := (by rw [p4.done, va, vb, Int.natAbs_mul, Int.natCast_mul]); have wo := wideOf_ok (sgnV a * sgnV b) xs p4.gd (by omega))
    refine aw_exit <| then_x <| then_x <| block_hit <| then_n <| aw_seq <| aw_freezeR s5_9 mo3_8 (fun m_23 e_23 hm_23 he_23 => ?_)
    have mo2_23 := m_set_o hm_23 mo2_8 (by decide)
    have mo1_23 := m_set_o hm_23 mo1_8 (by decide)
    have mo0_23 := m_set_o hm_23 mo0_8 (by decide)
    have ml_23 := m_set_l hm_23 ml_8
    have s2_23 : evA e_23 (.tmp 2) = _ := (congrArg (fun q => evA q (.tmp 2)) he_23).trans (up_m rfl s2_9)
    have s3_23 : evA e_23 (.tmp 3) = _ := (congrArg (fun q => evA q (.tmp 3)) he_23).trans (up_m rfl s3_9)
    have s4_23 : evA e_23 (.tmp 4) = _ := (congrArg (fun q => evA q (.tmp 4)) he_23).trans (up_m rfl s4_9)
    have s5_23 : evA e_23 (.tmp 5) = _ := (congrArg (fun q => evA q (.tmp 5)) he_23).trans up_h
    have s6_23 : evA e_23 (.tmp 6) = _ := (congrArg (fun q => evA q (.tmp 6)) he_23).trans (up_m rfl s6_9)
    have s23_23 : evA e_23 (.tmp 23) = _ := (congrArg (fun q => evA q (.tmp 23)) he_23).trans (up_m rfl s23_9)
    clear hm_23 he_23
    refine at_ <| ar (ro_fld_ptr y51_fl145_0 rfl s2_23) rfl <| ar (ro_eq (ro_ld_ptr y51_ty3 rfl mo0_23 up_h (nle rfl)) (by simp only [pS, Value.cells, Nat.reduceAdd, iE, set_iE, rep_iE] <;> rfl)) rfl ?_
    refine ar (ro_fld_ptr y51_fl145_0 rfl (u2 rfl s3_23)) rfl <| ar (ro_eq (ro_ld_ptr y51_ty3 rfl mo1_23 up_h (nle rfl)) (by simp only [pS, Value.cells, Nat.reduceAdd, iE, set_iE, rep_iE] <;> rfl)) rfl ?_
    (refine ar (ro_mul' (u2 rfl up_h) up_h ?_) rfl ?_; · (unfold In64; omega))
    refine ar (ro_move (up_m rfl (u4 rfl s5_23))) rfl <| ar (ro_call (evL_cons (up_m rfl up_h) (evL_cons up_h evL_nil)) rfl (wo) y51_hcf140) rfl <| al_stm (st_store (up_m rfl (u2 rfl (u4 rfl s4_23))) up_h rfl rfl mo2_23 y51_sz145 rfl (nle rfl)) trivial rfl (fun m_24 hm_24 => ?_)
    have mo2_24 := m_set hm_24 mo2_23
    simp only [pS, Value.cells, Nat.reduceAdd, iE, set_iE, rep_iE] at mo2_24
    have mo1_24 := m_set_o hm_24 mo1_23 (by decide)
    have mo0_24 := m_set_o hm_24 mo0_23 (by decide)
    have ml_24 := m_set_l hm_24 ml_23
    clear hm_24 mo2_23 mo1_23 mo0_23
    refine ae1 (up_n (up_m rfl (u2 rfl (u4 rfl s4_23)))) ?_; clear s23_23 s2_23 s3_23 s4_23 s5_23 s6_23; intro e_25 s4_25
    refine then_n <| aw_ret <| ret1 (.inr rfl) (by kernel_rfl) (resV_cell s4_25 mo2_24 y51_ty145 (nle rfl) (by simp)) (vw_r (.ro _ rfl)) ?_
    clear s4_25 mo2_24 mo1_24 mo0_24 ml_24
    (rw [se]; exact wA_of hv)
end Go.Proofs.Ytonjcljnpcmenaa

/- Contracts: digits compared, added, taken away. No conditions on a program. -/
namespace Go.Proofs.Ytonjcljnpcmenaa
open Go Go.RowKit Go.Proofs
set_option linter.unusedSimpArgs false
set_option linter.unusedVariables false
theorem y52_hcf141 : ∀ args w, (callFunc 141 args).run Try.prog w = .ok (.enter 141 args) w := fun _ _ => by kernel_rfl
theorem y52_hcf163 : ∀ args w, (callFunc 163 args).run Try.prog w = .ok (.enter 163 args) w := fun _ _ => by kernel_rfl
theorem y52_sl49 : SlIs Try.prog 49 3 1 8 (.int .i64 0) := ⟨by kernel_rfl, by kernel_rfl, by kernel_rfl⟩
theorem y52_ty3 : TyIs Try.prog 3 false 1 := ⟨by kernel_rfl, by kernel_rfl⟩

theorem cmp_len {m n : Nat} (h : (digN m).length < (digN n).length) : m < n := by
  have h1 := valD_lt (digN_gd m)
  rw [digN_val] at h1
  refine Nat.lt_of_not_le fun hc => ?_
  have := digN_mono hc
  omega
theorem digN_inj {m n : Nat} (h : digN m = digN n) : m = n := by
  have := digN_val m
  rw [h, digN_val] at this
  omega
set_option maxRecDepth 100000 in
set_option maxHeartbeats 4000000 in
theorem cmpDigits_ok (m n : Nat) (hm : (digN m).length ≤ 1000) (hn : (digN n).length ≤ 1000) : FnOk Try.prog 142 [dA m, dA n] (fun q => q = mA (sgnV ((m : Int) - n))) := by
  refine fnOk_of (fn := Try.f142) 41 (by kernel_rfl) rfl (by kernel_rfl) (Nat.le_of_ble_eq_true rfl) ?_
  intro e_0 m_0 hA hm_0
  have s0_0 : evA e_0 (.tmp 0) = _ := hA 0 _ rfl
  have s1_0 : evA e_0 (.tmp 1) = _ := hA 1 _ rfl
  have ml_0 : m_0.length = 0 := by rw [hm_0]; rfl
  clear hA hm_0
  have gm := digN_gd m; have gn := digN_gd n; have vm := digN_val m; have vn := digN_val n
  refine aw_seq <| at_ <| ar (ro_assign ev_c) rfl <| ae2 (up_m rfl s0_0) (up_m rfl s1_0) ?_; clear s0_0 s1_0; intro e_1 s0_1 s1_1
  refine then_n <| aw_seq <| aw_seq <| at_ <| ar (ro_move s0_1) rfl <| ar (ro_eq (ro_len_row up_h rfl y52_sl49.1) (by simp only [lnS] <;> rfl)) rfl ?_
  refine ar (ro_move (u2 rfl s1_1)) rfl <| ar (ro_eq (ro_len_row up_h rfl y52_sl49.1) (by simp only [lnS] <;> rfl)) rfl ?_
  refine ar (ro_neq (u2 rfl up_h) up_h) rfl <| ae3 (up_m rfl (u4 rfl s0_1)) (up_m rfl (u4 rfl s1_1)) up_h ?_; clear s0_1 s1_1; intro e_2 s0_2 s1_2 s10_2
  refine then_n <| aw_case s10_2 (fun hq_3 => ?_) (fun hq_3 => ?_)
  ·replace hq_3 := bnt hq_3
   refine aw_seq <| aw_seq <| at_ <| ar (ro_move s0_2) rfl <| ar (ro_eq (ro_len_row up_h rfl y52_sl49.1) (by simp only [lnS] <;> rfl)) rfl ?_
   refine ar (ro_move (u2 rfl s1_2)) rfl <| ar (ro_eq (ro_len_row up_h rfl y52_sl49.1) (by simp only [lnS] <;> rfl)) rfl ?_
   refine ar (ro_lss (u2 rfl up_h) up_h) rfl <| ae1 up_h ?_; clear s0_2 s10_2 s1_2; intro e_4 s15_4
   refine then_n <| aw_case s15_4 (fun hq_5 => ?_) (fun hq_5 => ?_)
   ·replace hq_5 := bt hq_5
    refine aw_seq <| at_ <| ar (ro_assign ev_c) rfl <| ae1 up_h ?_; clear s15_4; intro e_6 s4_6
    refine then_n <| aw_ret <| then_r <| then_r <| ret1 (.inr rfl) (by kernel_rfl) (resV_tmp s4_6) (.ro _ rfl) ?_
    clear s4_6  ml_0
    (have hc := cmp_len (m := m) (n := n) (by omega); refine congrArg mA ?_; unfold sgnV; rw [if_pos (by omega)])
   replace hq_5 := bf hq_5
   refine aw_skip <| then_n <| aw_seq <| at_ <| ar (ro_assign ev_c) rfl <| ae1 up_h ?_; clear s15_4; intro e_7 s4_7
   refine then_n <| aw_ret <| then_r <| ret1 (.inr rfl) (by kernel_rfl) (resV_tmp s4_7) (.ro _ rfl) ?_
   clear s4_7  ml_0
   (have hc := cmp_len (m := n) (n := m) (by omega); refine congrArg mA ?_; unfold sgnV; rw [if_neg (by omega), if_pos (by omega)])
  replace hq_3 := bnf hq_3
  refine aw_skip <| then_n <| aw_seq <| aw_seq <| at_ <| ar (ro_move s0_2) rfl <| ar (ro_eq (ro_len_row up_h rfl y52_sl49.1) (by simp only [lnS] <;> rfl)) rfl ?_
  (refine ar (ro_sub' up_h ev_c ?_) rfl ?_; · (unfold In64; omega))
  refine ar (ro_assign up_h) rfl <| ae3 (u4 rfl s0_2) (u4 rfl s1_2) up_h ?_; clear s0_2 s10_2 s1_2; intro e_8 s0_8 s1_8 s5_8
  refine then_n <| aw_block <| aw_loop (S := Int) (fun i e mem => (evA e (.tmp 5) = .v (.int .i64 i)) ∧ (evA e (.tmp 0) = evA e_8 (.tmp 0)) ∧ (evA e (.tmp 1) = evA e_8 (.tmp 1)) ∧ (mem.length = 0) ∧ ((-1 ≤ i ∧ i < (digN m).length ∧ (digN m).length = (digN n).length ∧ ∀ q : Nat, i < q → q < (digN m).length → (digN m).getD q default = (digN n).getD q default))) (fun i => (i + 1).toNat) _ ⟨s5_8, rfl, rfl, ml_0, ?_⟩ ?_
  · (exact ⟨by omega, by omega, by omega, fun q h1 h2 => by omega⟩)
  · rintro i e_9 m_9 ⟨s5_9, k0_9, k1_9, ml_9, hinv⟩
    have s0_9 := k0_9.trans s0_8
    have s1_9 := k1_9.trans s1_8
    (obtain ⟨p1, p2, p3, p4⟩ := hinv)
    refine aw_seq <| aw_seq <| at_ <| ar (ro_move s5_9) rfl <| ar (ro_geq up_h ev_c) rfl <| ae4 (u2 rfl s0_9) (u2 rfl s1_9) (u2 rfl s5_9) up_h ?_; clear s0_9 s1_9 s5_9; intro e_10 s0_10 s1_10 s5_10 s20_10
    refine then_n <| aw_case s20_10 (fun hq_11 => ?_) (fun hq_11 => ?_)
    ·replace hq_11 := bt hq_11
     refine aw_skip <| then_n <| aw_seq <| aw_block <| aw_seq <| aw_seq <| aw_draw 9 (by kernel_rfl) (by kernel_rfl) (by kernel_rfl) (by kernel_rfl) ?_
     refine dr (ro_move s0_10) rfl <| dr (ro_move (up_m rfl s5_10)) rfl <| dr (ro_eq (ro_ix y52_sl49 (up_m rfl up_h) up_h (by omega) (by first | (refine idx_map ?_; first | omega | (simp only [lnS]; omega)) | (refine idx_mapI ?_; first | omega | (simp only [lnS]; omega)) | (refine idx_mapN ?_; first | omega | (simp only [lnS]; omega)) | rfl)) (by simp only [pS, Value.cells, Nat.reduceAdd, iE] <;> rfl)) rfl ?_
     refine dr (ro_eq (ro_ld_ref y52_ty3 rfl up_h (nle rfl)) (by simp only [pS, Value.cells, Nat.reduceAdd, iE] <;> rfl)) rfl ?_
     refine dr (ro_move (u4 rfl s1_10)) rfl <| dr (ro_move (up_m rfl (u4 rfl s5_10))) rfl <| dr (ro_eq (ro_ix y52_sl49 (up_m rfl up_h) up_h (by omega) (by first | (refine idx_map ?_; first | omega | (simp only [lnS]; omega)) | (refine idx_mapI ?_; first | omega | (simp only [lnS]; omega)) | (refine idx_mapN ?_; first | omega | (simp only [lnS]; omega)) | rfl)) (by simp only [pS, Value.cells, Nat.reduceAdd, iE] <;> rfl)) rfl ?_
     refine dr (ro_eq (ro_ld_ref y52_ty3 rfl up_h (nle rfl)) (by simp only [pS, Value.cells, Nat.reduceAdd, iE] <;> rfl)) rfl ?_
     refine dr (ro_lss (u4 rfl up_h) up_h) rfl <| ds_nil <| ae4 (up_m rfl (u8 rfl s0_10)) (up_m rfl (u8 rfl s1_10)) (up_m rfl (u8 rfl s5_10)) up_h ?_; clear s0_10 s1_10 s20_10 s5_10; intro e_12 s0_12 s1_12 s5_12 s31_12
     refine then_n <| aw_case s31_12 (fun hq_13 => ?_) (fun hq_13 => ?_)
     ·replace hq_13 := bt hq_13
      refine aw_seq <| at_ <| ar (ro_assign ev_c) rfl <| ae1 up_h ?_; clear s0_12 s1_12 s31_12 s5_12; intro e_14 s4_14
      refine then_n <| aw_ret <| then_r <| block_r <| then_r <| then_r <| block_r <| then_r <| ret1 (.inr rfl) (by kernel_rfl) (resV_tmp s4_14) (.ro _ rfl) ?_
      clear s4_14  ml_9
      (have hc := valD_less gm gn p3 (i := i.toNat) (by omega) (fun q h1 h2 => p4 q (by omega) h2) (by omega); refine congrArg mA ?_; unfold sgnV; rw [if_pos (by omega)])
     replace hq_13 := bf hq_13
     refine aw_skip <| then_n <| aw_seq <| aw_draw 9 (by kernel_rfl) (by kernel_rfl) (by kernel_rfl) (by kernel_rfl) ?_
     refine dr (ro_move s0_12) rfl <| dr (ro_move (up_m rfl s5_12)) rfl <| dr (ro_eq (ro_ix y52_sl49 (up_m rfl up_h) up_h (by omega) (by first | (refine idx_map ?_; first | omega | (simp only [lnS]; omega)) | (refine idx_mapI ?_; first | omega | (simp only [lnS]; omega)) | (refine idx_mapN ?_; first | omega | (simp only [lnS]; omega)) | rfl)) (by simp only [pS, Value.cells, Nat.reduceAdd, iE] <;> rfl)) rfl ?_
     refine dr (ro_eq (ro_ld_ref y52_ty3 rfl up_h (nle rfl)) (by simp only [pS, Value.cells, Nat.reduceAdd, iE] <;> rfl)) rfl ?_
     refine dr (ro_move (u4 rfl s1_12)) rfl <| dr (ro_move (up_m rfl (u4 rfl s5_12))) rfl <| dr (ro_eq (ro_ix y52_sl49 (up_m rfl up_h) up_h (by omega) (by first | (refine idx_map ?_; first | omega | (simp only [lnS]; omega)) | (refine idx_mapI ?_; first | omega | (simp only [lnS]; omega)) | (refine idx_mapN ?_; first | omega | (simp only [lnS]; omega)) | rfl)) (by simp only [pS, Value.cells, Nat.reduceAdd, iE] <;> rfl)) rfl ?_
     refine dr (ro_eq (ro_ld_ref y52_ty3 rfl up_h (nle rfl)) (by simp only [pS, Value.cells, Nat.reduceAdd, iE] <;> rfl)) rfl ?_
     refine dr (ro_gtr (u4 rfl up_h) up_h) rfl <| ds_nil <| ae4 (up_m rfl (u8 rfl s0_12)) (up_m rfl (u8 rfl s1_12)) (up_m rfl (u8 rfl s5_12)) up_h ?_; clear s0_12 s1_12 s31_12 s5_12; intro e_15 s0_15 s1_15 s5_15 s40_15
     refine then_n <| aw_case s40_15 (fun hq_16 => ?_) (fun hq_16 => ?_)
     ·replace hq_16 := bt hq_16
      refine aw_seq <| at_ <| ar (ro_assign ev_c) rfl <| ae1 up_h ?_; clear s0_15 s1_15 s40_15 s5_15; intro e_17 s4_17
      refine then_n <| aw_ret <| block_r <| then_r <| then_r <| block_r <| then_r <| ret1 (.inr rfl) (by kernel_rfl) (resV_tmp s4_17) (.ro _ rfl) ?_
      clear s4_17  ml_9
      (have hc := valD_less gn gm p3.symm (i := i.toNat) (by omega) (fun q h1 h2 => (p4 q (by omega) (by omega)).symm) (by omega); refine congrArg mA ?_; unfold sgnV; rw [if_neg (by omega), if_pos (by omega)])
     replace hq_16 := bf hq_16
     refine aw_skip <| block_n <| then_n <| at_ <| ar (ro_move s5_15) rfl ?_
     (refine ar (ro_sub' up_h ev_c ?_) rfl ?_; · (unfold In64; omega))
     refine ar (ro_assign up_h) rfl <| ae3 (up_m rfl (u2 rfl s0_15)) (up_m rfl (u2 rfl s1_15)) up_h ?_; clear s0_15 s1_15 s40_15 s5_15; intro e_18 s0_18 s1_18 s5_18
     refine then_n <| ⟨_, ⟨s5_18, (s0_18.trans s0_8.symm), (s1_18.trans s1_8.symm), ml_9, ?_⟩, ?_⟩
     · (refine ⟨by omega, by omega, p3, fun q h1 h2 => ?_⟩; by_cases hq : (q : Int) = i; (rw [show q = i.toNat by omega]; omega); exact p4 q (by omega) h2)
     · ((try dsimp only); omega)
    replace hq_11 := bf hq_11
    refine aw_exit <| then_x <| then_x <| block_hit <| then_n <| aw_seq <| at_ <| ar (ro_assign ev_c) rfl <| ae1 up_h ?_; clear s0_10 s1_10 s20_10 s5_10; intro e_19 s4_19
    refine then_n <| aw_ret <| ret1 (.inr rfl) (by kernel_rfl) (resV_tmp s4_19) (.ro _ rfl) ?_
    clear s4_19  ml_9
    (have hc : m = n := digN_inj (list_same p3 fun q h2 => p4 q (by omega) h2); subst hc; refine congrArg mA ?_; unfold sgnV; rw [if_neg (by omega), if_neg (by omega)])
set_option maxRecDepth 100000 in
set_option maxHeartbeats 4000000 in
theorem digit_ok (ds : List Int) (i : Int) (h0 : 0 ≤ i) (hl : ds.length ≤ 1000000) : FnOk Try.prog 163 [.row 1 (ds.map iE), mA i] (fun q => q = mA (ds.getD i.toNat default)) := by
  refine fnOk_of (fn := Try.f163) 13 (by kernel_rfl) rfl (by kernel_rfl) (Nat.le_of_ble_eq_true rfl) ?_
  intro e_0 m_0 hA hm_0
  have s0_0 : evA e_0 (.tmp 0) = _ := hA 0 _ rfl
  have s1_0 : evA e_0 (.tmp 1) = _ := hA 1 _ rfl
  have ml_0 : m_0.length = 0 := by rw [hm_0]; rfl
  clear hA hm_0
  refine aw_seq <| at_ <| ar (ro_assign ev_c) rfl <| ae2 (up_m rfl s0_0) (up_m rfl s1_0) ?_; clear s0_0 s1_0; intro e_1 s0_1 s1_1
  refine then_n <| aw_seq <| aw_seq <| at_ <| ar (ro_move s1_1) rfl <| ar (ro_move (up_m rfl s0_1)) rfl <| ar (ro_eq (ro_len_row up_h rfl y52_sl49.1) (by simp only [lnS] <;> rfl)) rfl ?_
  refine ar (ro_lss (u2 rfl up_h) up_h) rfl <| ae3 (u4 rfl s0_1) (u4 rfl s1_1) up_h ?_; clear s0_1 s1_1; intro e_2 s0_2 s1_2 s8_2
  refine then_n <| aw_case s8_2 (fun hq_3 => ?_) (fun hq_3 => ?_)
  ·replace hq_3 := bt hq_3
   refine aw_seq <| at_ <| ar (ro_move s0_2) rfl <| ar (ro_move (up_m rfl s1_2)) rfl <| ar (ro_eq (ro_ix y52_sl49 (up_m rfl up_h) up_h (by omega) (by first | (refine idx_map ?_; first | omega | (simp only [lnS]; omega)) | (refine idx_mapI ?_; first | omega | (simp only [lnS]; omega)) | (refine idx_mapN ?_; first | omega | (simp only [lnS]; omega)) | rfl)) (by simp only [pS, Value.cells, Nat.reduceAdd, iE] <;> rfl)) rfl ?_
   refine ar (ro_eq (ro_ld_ref y52_ty3 rfl up_h (nle rfl)) (by simp only [pS, Value.cells, Nat.reduceAdd, iE] <;> rfl)) rfl ?_
   refine ar (ro_assign up_h) rfl <| ae1 up_h ?_; clear s0_2 s1_2 s8_2; intro e_4 s4_4
   refine then_n <| aw_ret <| then_r <| ret1 (.inr rfl) (by kernel_rfl) (resV_tmp s4_4) (.ro _ rfl) ?_
   clear s4_4  ml_0
   rfl
  replace hq_3 := bf hq_3
  refine aw_skip <| then_n <| aw_seq <| at_ <| ar (ro_assign ev_c) rfl <| ae1 up_h ?_; clear s0_2 s1_2 s8_2; intro e_5 s4_5
  refine then_n <| aw_ret <| ret1 (.inr rfl) (by kernel_rfl) (resV_tmp s4_5) (.ro _ rfl) ?_
  clear s4_5  ml_0
  (rw [getD_far (by omega)])
set_option maxRecDepth 100000 in
set_option maxHeartbeats 4000000 in
theorem subDigits_ok (m n : Nat) (h : n ≤ m) (hm : (digN m).length ≤ 1000) : FnOk Try.prog 143 [dA m, dA n] (fun q => q = dA (m - n)) := by
  refine fnOk_of (fn := Try.f143) 35 (by kernel_rfl) rfl (by kernel_rfl) (Nat.le_of_ble_eq_true rfl) ?_
  intro e_0 m_0 hA hm_0
  have s0_0 : evA e_0 (.tmp 0) = _ := hA 0 _ rfl
  have s1_0 : evA e_0 (.tmp 1) = _ := hA 1 _ rfl
  have ml_0 : m_0.length = 0 := by rw [hm_0]; rfl
  clear hA hm_0
  have gm := digN_gd m; have gn := digN_gd n; have hn := digN_mono h
  refine aw_seq <| at_ <| ar (ro_assign ev_c) rfl <| ae2 (up_m rfl s0_0) (up_m rfl s1_0) ?_; clear s0_0 s1_0; intro e_1 s0_1 s1_1
  refine then_n <| aw_seq <| at_ <| ar (ro_assign ev_c) rfl <| ae3 (up_m rfl s0_1) (up_m rfl s1_1) up_h ?_; clear s0_1 s1_1; intro e_2 s0_2 s1_2 s5_2
  refine then_n <| aw_seq <| at_ <| ar (ro_assign ev_c) rfl <| ae4 (up_m rfl s0_2) (up_m rfl s1_2) (up_m rfl s5_2) up_h ?_; clear s0_2 s1_2 s5_2; intro e_3 s0_3 s1_3 s5_3 s6_3
  refine then_n <| aw_seq <| aw_seq <| at_ <| ar (ro_assign ev_c) rfl <| ae5 (up_m rfl s0_3) (up_m rfl s1_3) (up_m rfl s5_3) (up_m rfl s6_3) up_h ?_; clear s0_3 s1_3 s5_3 s6_3; intro e_4 s0_4 s1_4 s5_4 s6_4 s7_4
  refine then_n <| aw_block <| aw_adopt 3 1 s5_4 ml_0 (fun m_5 e_5 hm_5 he_5 => ?_)
  have mo0_5 := m_push hm_5 ml_0
  have ml_5 := m_push_l hm_5 ml_0
  have ml_5 : _ = 1 := ml_5
  have s0_5 : evA e_5 (.tmp 0) = _ := (congrArg (fun q => evA q (.tmp 0)) he_5).trans (up_m rfl s0_4)
  have s1_5 : evA e_5 (.tmp 1) = _ := (congrArg (fun q => evA q (.tmp 1)) he_5).trans (up_m rfl s1_4)
  have s5_5 : evA e_5 (.tmp 5) = _ := (congrArg (fun q => evA q (.tmp 5)) he_5).trans up_h
  have s6_5 : evA e_5 (.tmp 6) = _ := (congrArg (fun q => evA q (.tmp 6)) he_5).trans (up_m rfl s6_4)
  have s7_5 : evA e_5 (.tmp 7) = _ := (congrArg (fun q => evA q (.tmp 7)) he_5).trans (up_m rfl s7_4)
  clear hm_5 he_5
  refine aw_loop (S := (Int × Int × List Int)) (fun s e mem => match s with | ⟨i, w, xs⟩ => (evA e (.tmp 7) = .v (.int .i64 i)) ∧ (evA e (.tmp 6) = .v (.int .i64 w)) ∧ (evA e (.tmp 0) = evA e_5 (.tmp 0)) ∧ (evA e (.tmp 1) = evA e_5 (.tmp 1)) ∧ (∃ j, evA e (.tmp 5) = .own j ∧ mem[j]? = some (.row 3 1 (xs.map iE)) ∧ True) ∧ (∃ n, mem.length = n ∧ 1 ≤ n) ∧ ((0 ≤ i ∧ i ≤ (digN m).length ∧ SB (digN m) (digN n) xs i.toNat w))) (fun s => match s with | ⟨i, w, xs⟩ => ((digN m).length - i).toNat) ⟨_, _, []⟩ ⟨s7_5, s6_5, rfl, rfl, ⟨_, s5_5, mo0_5, trivial⟩, ⟨_, ml_5, Nat.le_refl _⟩, ?_⟩ ?_
  · (exact ⟨by omega, by omega, SB.first _ _⟩)
  · rintro ⟨i, w, xs⟩ e_6 m_6 ⟨s7_6, s6_6, k0_6, k1_6, ⟨j5_6, s5_6, mo_j5_6, -⟩, ⟨n_6, ml_6, hn_6⟩, hinv⟩
    have s0_6 := k0_6.trans s0_5
    have s1_6 := k1_6.trans s1_5
    have jl5_6 := m_lt mo_j5_6 ml_6
    (obtain ⟨p1, p2, p3⟩ := hinv; have pl := p3.len; have pw := p3.w01; have d1 := gm.at i.toNat; have d2 := gn.at i.toNat)
    refine aw_seq <| aw_seq <| at_ <| ar (ro_move s7_6) rfl <| ar (ro_move (up_m rfl s0_6)) rfl <| ar (ro_eq (ro_len_row up_h rfl y52_sl49.1) (by simp only [lnS] <;> rfl)) rfl ?_
    refine ar (ro_lss (u2 rfl up_h) up_h) rfl <| ae6 (u4 rfl s0_6) (u4 rfl s1_6) (u4 rfl s5_6) (u4 rfl s6_6) (u4 rfl s7_6) up_h ?_; clear s0_6 s1_6 s5_6 s6_6 s7_6; intro e_7 s0_7 s1_7 s5_7 s6_7 s7_7 s12_7
    refine then_n <| aw_case s12_7 (fun hq_8 => ?_) (fun hq_8 => ?_)
    ·replace hq_8 := bt hq_8
     refine aw_skip <| then_n <| aw_seq <| aw_block <| aw_seq <| aw_draw 11 (by kernel_rfl) (by kernel_rfl) (by kernel_rfl) (by kernel_rfl) ?_
     refine dr (ro_move s0_7) rfl <| dr (ro_move (up_m rfl s7_7)) rfl <| dr (ro_eq (ro_ix y52_sl49 (up_m rfl up_h) up_h (by omega) (by first | (refine idx_map ?_; first | omega | (simp only [lnS]; omega)) | (refine idx_mapI ?_; first | omega | (simp only [lnS]; omega)) | (refine idx_mapN ?_; first | omega | (simp only [lnS]; omega)) | rfl)) (by simp only [pS, Value.cells, Nat.reduceAdd, iE, one_iE, app_m] <;> rfl)) rfl ?_
     refine dr (ro_eq (ro_ld_ref y52_ty3 rfl up_h (nle rfl)) (by simp only [pS, Value.cells, Nat.reduceAdd, iE, one_iE, app_m] <;> rfl)) rfl ?_
     refine dr (ro_move (u4 rfl s1_7)) rfl <| dr (ro_move (up_m rfl (u4 rfl s7_7))) rfl <| dr (ro_call (evL_cons (up_m rfl up_h) (evL_cons up_h evL_nil)) rfl (digit_ok (digN n) i (by omega) (by omega)) y52_hcf163) rfl ?_
     (refine dr (ro_sub' (up_m rfl (u2 rfl up_h)) up_h ?_) rfl ?_; · (unfold In64; omega))
     refine dr (ro_move (u8 rfl s6_7)) rfl ?_
     (refine dr (ro_sub' (up_m rfl up_h) up_h ?_) rfl ?_; · (unfold In64; omega))
     refine dr (ro_assign up_h) rfl <| ds_nil <| ae5 (up_m rfl (u2 rfl (u8 rfl s0_7))) (up_m rfl (u2 rfl (u8 rfl s1_7))) (up_m rfl (u2 rfl (u8 rfl s5_7))) (up_m rfl (u2 rfl (u8 rfl s7_7))) up_h ?_; clear s0_7 s12_7 s1_7 s5_7 s6_7 s7_7; intro e_9 s0_9 s1_9 s5_9 s7_9 s8_9
     refine then_n <| aw_seq <| at_ <| ar (ro_assign ev_c) rfl <| ae6 (up_m rfl s0_9) (up_m rfl s1_9) (up_m rfl s5_9) up_h (up_m rfl s7_9) (up_m rfl s8_9) ?_; clear s0_9 s1_9 s5_9 s7_9 s8_9; intro e_10 s0_10 s1_10 s5_10 s6_10 s7_10 s8_10
     refine then_n <| aw_seq <| aw_seq <| at_ <| ar (ro_move s8_10) rfl <| ar (ro_lss up_h ev_c) rfl <| ae7 (u2 rfl s0_10) (u2 rfl s1_10) (u2 rfl s5_10) (u2 rfl s6_10) (u2 rfl s7_10) (u2 rfl s8_10) up_h ?_; clear s0_10 s1_10 s5_10 s6_10 s7_10 s8_10; intro e_11 s0_11 s1_11 s5_11 s6_11 s7_11 s8_11 s26_11
     refine then_n <| aw_case s26_11 (fun hq_12 => ?_) (fun hq_12 => ?_)
     ·replace hq_12 := bt hq_12
      refine at_ <| ar (ro_move s8_11) rfl ?_
      (refine ar (ro_add' up_h ev_c ?_) rfl ?_; · (unfold In64; omega))
      refine ar (ro_assign up_h) rfl <| ar (ro_assign ev_c) rfl <| ae6 (u4 rfl s0_11) (u4 rfl s1_11) (u4 rfl s5_11) up_h (u4 rfl s7_11) (up_m rfl up_h) ?_; clear s0_11 s1_11 s26_11 s5_11 s6_11 s7_11 s8_11; intro e_13 s0_13 s1_13 s5_13 s6_13 s7_13 s8_13
      refine then_n <| at_ <| ar (ro_move s5_13) rfl <| ar (ro_move (up_m rfl s8_13)) rfl <| ar (ro_lit y52_sl49 (evP_cons up_h evP_nil) rfl rfl rfl rfl) rfl <| al_stm (st_app y52_sl49 rfl ml_6 mo_j5_6 (u2 rfl up_h) up_h (by rfl) (by simp only [lnS] <;> omega)) trivial rfl (fun m_14 hm_14 => ?_)
      have mon_6_14 := m_swap hm_14 ml_6
      simp only [pS, Value.cells, Nat.reduceAdd, iE, one_iE, app_m] at mon_6_14
      have ml_14 := m_swap_l hm_14 ml_6
      clear hm_14 mo_j5_6
      refine ar (ro_assign up_h) rfl <| ae5 (up_m rfl (u4 rfl s0_13)) (up_m rfl (u4 rfl s1_13)) up_h (up_m rfl (u4 rfl s6_13)) (up_m rfl (u4 rfl s7_13)) ?_; clear s0_13 s1_13 s5_13 s6_13 s7_13 s8_13; intro e_15 s0_15 s1_15 s5_15 s6_15 s7_15
      refine block_n <| then_n <| at_ <| ar (ro_move s7_15) rfl ?_
      (refine ar (ro_add' up_h ev_c ?_) rfl ?_; · (unfold In64; omega))
      refine ar (ro_assign up_h) rfl <| ae5 (up_m rfl (u2 rfl s0_15)) (up_m rfl (u2 rfl s1_15)) (up_m rfl (u2 rfl s5_15)) (up_m rfl (u2 rfl s6_15)) up_h ?_; clear s0_15 s1_15 s5_15 s6_15 s7_15; intro e_16 s0_16 s1_16 s5_16 s6_16 s7_16
      refine then_n <| ⟨⟨_, _, _⟩, ⟨s7_16, s6_16, (s0_16.trans s0_5.symm), (s1_16.trans s1_5.symm), ⟨_, s5_16, mon_6_14, trivial⟩, ⟨_, ml_14, by omega⟩, ?_⟩, ?_⟩
      · (refine ⟨by omega, by omega, ?_⟩; rw [show (i + 1).toNat = i.toNat + 1 by omega]; exact p3.next gm gn (by omega) (by omega) (by omega))
      · ((try dsimp only); omega)
     replace hq_12 := bf hq_12
     refine aw_skip <| then_n <| at_ <| ar (ro_move s5_11) rfl <| ar (ro_move (up_m rfl s8_11)) rfl <| ar (ro_lit y52_sl49 (evP_cons up_h evP_nil) rfl rfl rfl rfl) rfl <| al_stm (st_app y52_sl49 rfl ml_6 mo_j5_6 (u2 rfl up_h) up_h (by rfl) (by simp only [lnS] <;> omega)) trivial rfl (fun m_17 hm_17 => ?_)
     have mon_6_17 := m_swap hm_17 ml_6
     simp only [pS, Value.cells, Nat.reduceAdd, iE, one_iE, app_m] at mon_6_17
     have ml_17 := m_swap_l hm_17 ml_6
     clear hm_17 mo_j5_6
     refine ar (ro_assign up_h) rfl <| ae5 (up_m rfl (u4 rfl s0_11)) (up_m rfl (u4 rfl s1_11)) up_h (up_m rfl (u4 rfl s6_11)) (up_m rfl (u4 rfl s7_11)) ?_; clear s0_11 s1_11 s26_11 s5_11 s6_11 s7_11 s8_11; intro e_18 s0_18 s1_18 s5_18 s6_18 s7_18
     refine block_n <| then_n <| at_ <| ar (ro_move s7_18) rfl ?_
     (refine ar (ro_add' up_h ev_c ?_) rfl ?_; · (unfold In64; omega))
     refine ar (ro_assign up_h) rfl <| ae5 (up_m rfl (u2 rfl s0_18)) (up_m rfl (u2 rfl s1_18)) (up_m rfl (u2 rfl s5_18)) (up_m rfl (u2 rfl s6_18)) up_h ?_; clear s0_18 s1_18 s5_18 s6_18 s7_18; intro e_19 s0_19 s1_19 s5_19 s6_19 s7_19
     refine then_n <| ⟨⟨_, _, _⟩, ⟨s7_19, s6_19, (s0_19.trans s0_5.symm), (s1_19.trans s1_5.symm), ⟨_, s5_19, mon_6_17, trivial⟩, ⟨_, ml_17, by omega⟩, ?_⟩, ?_⟩
     · (refine ⟨by omega, by omega, ?_⟩; rw [show (i + 1).toNat = i.toNat + 1 by omega]; exact p3.next gm gn (by omega) (by omega) (by omega))
     · ((try dsimp only); omega)
    replace hq_8 := bf hq_8
    (have hi : i.toNat = (digN m).length := (by omega); have p4 := p3; rw [hi] at p4; have hv := p4.done h; have tr := trimmed_ok xs p4.gd (by omega))
    refine aw_exit <| then_x <| then_x <| block_hit <| then_n <| aw_seq <| aw_freezeR s5_7 mo_j5_6 (fun m_20 e_20 hm_20 he_20 => ?_)
    have ml_20 := m_set_l hm_20 ml_6
    have s0_20 : evA e_20 (.tmp 0) = _ := (congrArg (fun q => evA q (.tmp 0)) he_20).trans (up_m rfl s0_7)
    have s1_20 : evA e_20 (.tmp 1) = _ := (congrArg (fun q => evA q (.tmp 1)) he_20).trans (up_m rfl s1_7)
    have s5_20 : evA e_20 (.tmp 5) = _ := (congrArg (fun q => evA q (.tmp 5)) he_20).trans up_h
    have s6_20 : evA e_20 (.tmp 6) = _ := (congrArg (fun q => evA q (.tmp 6)) he_20).trans (up_m rfl s6_7)
    have s7_20 : evA e_20 (.tmp 7) = _ := (congrArg (fun q => evA q (.tmp 7)) he_20).trans (up_m rfl s7_7)
    have s12_20 : evA e_20 (.tmp 12) = _ := (congrArg (fun q => evA q (.tmp 12)) he_20).trans (up_m rfl s12_7)
    clear hm_20 he_20
    refine at_ <| ar (ro_move s5_20) rfl <| ar (ro_call (evL_cons up_h evL_nil) rfl (tr) y52_hcf141) rfl <| ar (ro_assign up_h) rfl <| ae1 up_h ?_; clear s0_20 s12_20 s1_20 s5_20 s6_20 s7_20; intro e_21 s4_21
    refine then_n <| aw_ret <| ret1 (.inr rfl) (by kernel_rfl) (resV_tmp s4_21) (.ro _ rfl) ?_
    clear s4_21  ml_20
    (rw [hv])
theorem digN_big {m i : Nat} (h : i < (digN m).length) : (1000000000 : Int) ^ i ≤ m := by
  refine Int.not_lt.1 fun hc => ?_
  have h2 : ((m : Nat) : Int) < ((1000000000 ^ i : Nat) : Int) := by rw [Int.natCast_pow]; exact hc
  have := digN_len (Int.ofNat_lt.1 h2)
  omega
theorem AD.top {m n : Nat} {o : List Int} {i : Nat} {w : Int} (h : AD (digN m) (digN n) o i w) (hg : i < (digN m).length ∨ i < (digN n).length ∨ 0 < w) : (1000000000 : Int) ^ i ≤ (m : Int) + n := by
  have hp : (0 : Int) < 1000000000 ^ i := Int.pow_pos (by decide)
  by_cases h1 : i < (digN m).length
  · have := digN_big h1; omega
  · by_cases h2 : i < (digN n).length
    · have := digN_big h2; omega
    · have hv := h.v
      rw [List.take_of_length_le (by omega), List.take_of_length_le (by omega), digN_val, digN_val] at hv
      have hw := h.w01
      have hn := valD_nn h.gd
      have : w = 1 := by omega
      subst this
      rw [Int.one_mul] at hv
      omega
end Go.Proofs.Ytonjcljnpcmenaa

/- Contracts: wide numbers added, compared, divided. No conditions on a program. -/
namespace Go.Proofs.Ytonjcljnpcmenaa
open Go Go.RowKit Go.Proofs
set_option linter.unusedSimpArgs false
set_option linter.unusedVariables false
theorem y53_fl145_0 : FldIs Try.prog 145 0 0 false 1 := by unfold FldIs; kernel_rfl
theorem y53_fl145_1 : FldIs Try.prog 145 1 1 false 1 := by unfold FldIs; kernel_rfl
theorem y53_sl49 : SlIs Try.prog 49 3 1 8 (.int .i64 0) := ⟨by kernel_rfl, by kernel_rfl, by kernel_rfl⟩
theorem y53_ty3 : TyIs Try.prog 3 false 1 := ⟨by kernel_rfl, by kernel_rfl⟩
theorem y53_ty49 : TyIs Try.prog 49 false 1 := ⟨by kernel_rfl, by kernel_rfl⟩

theorem sgn_0 {a : Int} : sgnV a = 0 ↔ a = 0 := by unfold sgnV; (repeat' split) <;> omega
theorem sgn_pos {a : Int} (h : 0 < a) : sgnV a = 1 := by unfold sgnV; (repeat' split) <;> omega
theorem sgn_lt {a : Int} (h : a < 0) : sgnV a = -1 := by unfold sgnV; (repeat' split) <;> omega
theorem wA_z (h : True) : AV.agg [mA 0, .row 1 []] = wA 0 := by unfold wA; rw [show (0 : Int).natAbs = 0 from rfl, digN_0]; rfl
theorem wA_sg {a : Int} {v : Int} {sg : Int} (h : v = a.natAbs) (hs : a ≠ 0 → sg = sgnV a) : AV.agg [mA (if v = 0 then 0 else sg), dA v.toNat] = wA a := by
  rw [← wA_of h]
  by_cases h0 : v = 0
  · rw [if_pos h0, if_pos h0]
  · rw [if_neg h0, if_neg h0, hs (by omega)]
theorem sgn_t (x : Int) : (sgnV x = 0 ↔ x = 0) ∧ (0 < sgnV x ↔ 0 < x) := by unfold sgnV; (repeat' split) <;> omega
theorem valD_drop_le {n i : Nat} (h : i < (digN n).length) : valD ((digN n).drop i) ≤ n ∧ 0 ≤ valD ((digN n).drop (i + 1)) := by
  have g := digN_gd n
  have h1 := valD_app ((digN n).take i) ((digN n).drop i)
  rw [List.take_append_drop, digN_val] at h1
  have h2 := valD_nn (g.take i)
  have h3 : 0 ≤ valD ((digN n).drop i) := valD_nn fun d hd => g d (List.mem_of_mem_drop hd)
  have hp : (1 : Int) ≤ 1000000000 ^ ((digN n).take i).length := Int.pow_pos (by decide)
  have h4 := Int.mul_le_mul_of_nonneg_right hp h3
  exact ⟨by omega, valD_nn fun d hd => g d (List.mem_of_mem_drop hd)⟩
set_option maxRecDepth 100000 in
set_option maxHeartbeats 4000000 in
theorem widInt_ok (a : Int) (ha : 0 ≤ a) : FnOk Try.prog 89 [wA a] (fun q => q = if a < 1000000000000000000 then .tuple [mA a, tbA true] else .tuple [mA 0, tbA false]) := by
  refine fnOk_of (fn := Try.f89) 30 (by kernel_rfl) rfl (by kernel_rfl) (Nat.le_of_ble_eq_true rfl) ?_
  intro e_0 m_0 hA hm_0
  have s0_0 : evA e_0 (.tmp 0) = _ := hA 0 _ rfl
  have ml_0 : m_0.length = 0 := by rw [hm_0]; rfl
  clear hA hm_0
  have ga := digN_gd a.natAbs; have va := digN_val a.natAbs; have sa := sgn_bd a
  refine aw_seq <| at_ <| al_stm (st_box s0_0 rfl ml_0) trivial rfl (fun m_1 hm_1 => ?_)
  have mo0_1 := m_push hm_1 ml_0
  have ml_1 := m_push_l hm_1 ml_0
  have ml_1 : _ = 1 := ml_1
  clear hm_1
  refine ar (ro_assign ev_c) rfl <| ar (ro_assign ev_c) rfl <| ae1 (u2 rfl up_h) ?_; clear s0_0; intro e_2 s1_2
  refine then_n <| aw_seq <| aw_seq <| at_ <| ar (ro_fld_ptr y53_fl145_1 rfl s1_2) rfl <| ar (ro_eq (ro_ld_ptr y53_ty49 rfl mo0_1 up_h (nle rfl)) (by simp only [pS, Value.cells, Nat.reduceAdd, iE] <;> rfl)) rfl ?_
  refine ar (ro_eq (ro_len_row up_h rfl y53_sl49.1) (by simp only [lnS] <;> rfl)) rfl ?_
  refine ar (ro_gtr up_h ev_c) rfl <| ae2 (u4 rfl s1_2) up_h ?_; clear s1_2; intro e_3 s1_3 s9_3
  refine then_n <| aw_case s9_3 (fun hq_4 => ?_) (fun hq_4 => ?_)
  ·replace hq_4 := bt hq_4
   refine aw_seq <| at_ <| ar (ro_assign ev_c) rfl <| ar (ro_assign ev_c) rfl <| ae2 (up_m rfl up_h) up_h ?_; clear s1_3 s9_3; intro e_5 s2_5 s3_5
   refine then_n <| aw_ret <| then_r <| ret2 (.inr rfl) (by kernel_rfl) (resV_tmp s2_5) (resV_tmp s3_5) (.ro _ rfl) (.ro _ rfl) ?_
   clear s2_5 s3_5 mo0_1 ml_1
   (have hb := digN_big (m := a.natAbs) (i := 2) (by omega); rw [if_neg (by omega)])
  replace hq_4 := bf hq_4
  (have hlt : a < 1000000000000000000 := (by have h1 := valD_lt ga; rcases (show (digN a.natAbs).length = 0 ∨ (digN a.natAbs).length = 1 ∨ (digN a.natAbs).length = 2 by omega) with h | h | h <;> rw [h] at h1 <;> omega))
  refine aw_skip <| then_n <| aw_seq <| at_ <| ar (ro_assign ev_c) rfl <| ae2 (up_m rfl s1_3) up_h ?_; clear s1_3 s9_3; intro e_6 s1_6 s4_6
  refine then_n <| aw_seq <| aw_seq <| at_ <| ar (ro_fld_ptr y53_fl145_1 rfl s1_6) rfl <| ar (ro_eq (ro_ld_ptr y53_ty49 rfl mo0_1 up_h (nle rfl)) (by simp only [pS, Value.cells, Nat.reduceAdd, iE] <;> rfl)) rfl ?_
  refine ar (ro_eq (ro_len_row up_h rfl y53_sl49.1) (by simp only [lnS] <;> rfl)) rfl ?_
  (refine ar (ro_sub' up_h ev_c ?_) rfl ?_; · (unfold In64; omega))
  refine ar (ro_assign up_h) rfl <| ae3 (up_m rfl (u4 rfl s1_6)) (up_m rfl (u4 rfl s4_6)) up_h ?_; clear s1_6 s4_6; intro e_7 s1_7 s4_7 s5_7
  refine then_n <| aw_block <| aw_loop (S := (Int × Int)) (fun s e mem => match s with | ⟨n, i⟩ => (evA e (.tmp 4) = .v (.int .i64 n)) ∧ (evA e (.tmp 5) = .v (.int .i64 i)) ∧ (evA e (.tmp 1) = evA e_7 (.tmp 1)) ∧ (mem[0]? = m_1[0]?) ∧ (mem.length = 1) ∧ ((-1 ≤ i ∧ i < (digN a.natAbs).length ∧ n = valD ((digN a.natAbs).drop (i + 1).toNat)))) (fun s => match s with | ⟨n, i⟩ => (i + 1).toNat) ⟨_, _⟩ ⟨s4_7, s5_7, rfl, rfl, ml_1, ?_⟩ ?_
  · (exact ⟨by omega, by omega, by rw [List.drop_of_length_le (by omega)]; rfl⟩)
  · rintro ⟨n, i⟩ e_8 m_8 ⟨s4_8, s5_8, k1_8, mk0_8, ml_8, hinv⟩
    have s1_8 := k1_8.trans s1_7
    have mo0_8 := mk0_8.trans mo0_1
    (obtain ⟨p1, p2, p3⟩ := hinv)
    refine aw_seq <| aw_seq <| at_ <| ar (ro_move s5_8) rfl <| ar (ro_geq up_h ev_c) rfl <| ae4 (u2 rfl s1_8) (u2 rfl s4_8) (u2 rfl s5_8) up_h ?_; clear s1_8 s4_8 s5_8; intro e_9 s1_9 s4_9 s5_9 s15_9
    refine then_n <| aw_case s15_9 (fun hq_10 => ?_) (fun hq_10 => ?_)
    ·replace hq_10 := bt hq_10
     (have e1 := valD_top (n := a.natAbs) (i := i.toNat) (by omega); obtain ⟨e2, e3⟩ := valD_drop_le (n := a.natAbs) (i := i.toNat) (by omega); rw [show (i + 1).toNat = i.toNat + 1 by omega] at p3; have e4 := ga.at i.toNat)
     refine aw_skip <| then_n <| aw_seq <| aw_block <| at_ <| ar (ro_move s4_9) rfl ?_
     (refine ar (ro_mul' up_h ev_c ?_) rfl ?_; · (unfold In64; omega))
     refine ar (ro_fld_ptr y53_fl145_1 rfl (u2 rfl s1_9)) rfl <| ar (ro_eq (ro_ld_ptr y53_ty49 rfl mo0_8 up_h (nle rfl)) (by simp only [pS, Value.cells, Nat.reduceAdd, iE] <;> rfl)) rfl ?_
     refine ar (ro_move (u4 rfl s5_9)) rfl <| ar (ro_eq (ro_ix y53_sl49 (up_m rfl up_h) up_h (by omega) (by first | (refine idx_map ?_; first | omega | (simp only [lnS]; omega)) | (refine idx_mapI ?_; first | omega | (simp only [lnS]; omega)) | (refine idx_mapN ?_; first | omega | (simp only [lnS]; omega)) | rfl)) (by simp only [pS, Value.cells, Nat.reduceAdd, iE] <;> rfl)) rfl ?_
     refine ar (ro_eq (ro_ld_ref y53_ty3 rfl up_h (nle rfl)) (by simp only [pS, Value.cells, Nat.reduceAdd, iE] <;> rfl)) rfl ?_
     (refine ar (ro_add' (up_m rfl (u4 rfl up_h)) up_h ?_) rfl ?_; · (unfold In64; omega))
     refine ar (ro_assign up_h) rfl <| ae3 (up_m rfl (u8 rfl s1_9)) up_h (up_m rfl (u8 rfl s5_9)) ?_; clear s15_9 s1_9 s4_9 s5_9; intro e_11 s1_11 s4_11 s5_11
     refine block_n <| then_n <| at_ <| ar (ro_move s5_11) rfl ?_
     (refine ar (ro_sub' up_h ev_c ?_) rfl ?_; · (unfold In64; omega))
     refine ar (ro_assign up_h) rfl <| ae3 (up_m rfl (u2 rfl s1_11)) (up_m rfl (u2 rfl s4_11)) up_h ?_; clear s1_11 s4_11 s5_11; intro e_12 s1_12 s4_12 s5_12
     refine then_n <| ⟨⟨_, _⟩, ⟨s4_12, s5_12, (s1_12.trans s1_7.symm), (mo0_8.trans mo0_1.symm), ml_8, ?_⟩, ?_⟩
     · (refine ⟨by omega, by omega, ?_⟩; rw [show (i - 1 + 1).toNat = i.toNat by omega]; omega)
     · ((try dsimp only); omega)
    replace hq_10 := bf hq_10
    (have e1 : n = a := (by rw [p3, show (i + 1).toNat = 0 by omega, List.drop_zero, va]; omega); have e2 : sgnV a * n = a := (by rw [e1]; by_cases h0 : a = 0; (rw [h0]; rfl); (rw [sgn_pos (by omega), Int.one_mul])))
    refine aw_exit <| then_x <| then_x <| block_hit <| then_n <| aw_seq <| at_ <| ar (ro_fld_ptr y53_fl145_0 rfl s1_9) rfl <| ar (ro_eq (ro_ld_ptr y53_ty3 rfl mo0_8 up_h (nle rfl)) (by simp only [pS, Value.cells, Nat.reduceAdd, iE] <;> rfl)) rfl ?_
    refine ar (ro_move (u2 rfl s4_9)) rfl ?_
    (refine ar (ro_mul' (up_m rfl up_h) up_h ?_) rfl ?_; · (unfold In64; omega))
    refine ar (ro_assign up_h) rfl <| ar (ro_assign ev_c) rfl <| ae2 (up_m rfl up_h) up_h ?_; clear s15_9 s1_9 s4_9 s5_9; intro e_13 s2_13 s3_13
    refine then_n <| aw_ret <| ret2 (.inr rfl) (by kernel_rfl) (resV_tmp s2_13) (resV_tmp s3_13) (.ro _ rfl) (.ro _ rfl) ?_
    clear s2_13 s3_13 mo0_8 ml_8
    (rw [if_pos hlt, e2])
end Go.Proofs.Ytonjcljnpcmenaa

/- Contracts: wide numbers compared, divided. No conditions on a program. -/
namespace Go.Proofs.Ytonjcljnpcmenaa
open Go Go.RowKit Go.Proofs
set_option linter.unusedSimpArgs false
set_option linter.unusedVariables false
theorem y54_az145 : (Try.prog.info? 145).bind (·.zero) = some (.agg #[.int .i64 0, .slice none 0 0]) := by kernel_rfl
theorem y54_bz145 : (Try.prog.info? 145).bind (·.zero) = some (.agg #[.int .i64 0, .slice none 0 0]) := by kernel_rfl
theorem y54_bu145 : Try.prog.underlying 145 = some (.struct (fsOf Try.prog 145)) := by kernel_rfl
theorem y54_bp145 : ∀ w, ((fsOf Try.prog 145).mapM fun f => Prod.mk f.offset <$> sizeOf f.type : Sem (Array (Nat × Nat))).run Try.prog w = .ok (#[(0, 1), (1, 1)]) w := fun _ => by kernel_rfl
theorem y54_fl145_0 : FldIs Try.prog 145 0 0 false 1 := by unfold FldIs; kernel_rfl
theorem y54_fl145_1 : FldIs Try.prog 145 1 1 false 1 := by unfold FldIs; kernel_rfl
theorem y54_hcf140 : ∀ args w, (callFunc 140 args).run Try.prog w = .ok (.enter 140 args) w := fun _ _ => by kernel_rfl
theorem y54_hcf141 : ∀ args w, (callFunc 141 args).run Try.prog w = .ok (.enter 141 args) w := fun _ _ => by kernel_rfl
theorem y54_hcf142 : ∀ args w, (callFunc 142 args).run Try.prog w = .ok (.enter 142 args) w := fun _ _ => by kernel_rfl
theorem y54_hcf143 : ∀ args w, (callFunc 143 args).run Try.prog w = .ok (.enter 143 args) w := fun _ _ => by kernel_rfl
theorem y54_hcf87 : ∀ args w, (callFunc 87 args).run Try.prog w = .ok (.enter 87 args) w := fun _ _ => by kernel_rfl
theorem y54_hcf88 : ∀ args w, (callFunc 88 args).run Try.prog w = .ok (.enter 88 args) w := fun _ _ => by kernel_rfl
theorem y54_sl49 : SlIs Try.prog 49 3 1 8 (.int .i64 0) := ⟨by kernel_rfl, by kernel_rfl, by kernel_rfl⟩
theorem y54_sz145 : (Try.prog.info? 145).map (·.size) = some 2 := by kernel_rfl
theorem y54_sz3 : (Try.prog.info? 3).map (·.size) = some 1 := by kernel_rfl
theorem y54_ty145 : TyIs Try.prog 145 true 2 := ⟨by kernel_rfl, by kernel_rfl⟩
theorem y54_ty3 : TyIs Try.prog 3 false 1 := ⟨by kernel_rfl, by kernel_rfl⟩
theorem y54_ty49 : TyIs Try.prog 49 false 1 := ⟨by kernel_rfl, by kernel_rfl⟩

theorem digN_lt {z k : Nat} (hz : (digN z).length ≤ k) : z < 1000000000 ^ k := by
  have h1 := valD_lt (digN_gd z)
  rw [digN_val] at h1
  have h2 : ((z : Nat) : Int) < ((1000000000 ^ (digN z).length : Nat) : Int) := by rw [Int.natCast_pow]; exact h1
  exact Nat.lt_of_lt_of_le (Int.ofNat_lt.1 h2) (Nat.pow_le_pow_right (by decide) hz)
theorem digN_mul_len {x y k j : Nat} (hx : (digN x).length ≤ k) (hy : (digN y).length ≤ j) : (digN (x * y)).length ≤ k + j := by
  refine digN_len ?_
  rw [Nat.pow_add]
  have h1 := digN_lt hx
  have h2 := digN_lt hy
  exact Nat.lt_of_le_of_lt (Nat.mul_le_mul_left _ (Nat.le_of_lt h2)) (Nat.mul_lt_mul_of_pos_right h1 (Nat.pow_pos (by decide)))
theorem wide1_ok (b : Int) (hb : 0 < b) (hl : (digN b.natAbs).length ≤ 500) : FnOk Try.prog 140 [mA 1, dA b.natAbs] (fun q => q = wA b) :=
  (wideOf_ok 1 _ (digN_gd b.natAbs) (by omega)).mono fun q h => h.trans (wA_sg (by rw [digN_val]) fun _ => (sgn_pos hb).symm)
theorem iE_one (l : List Int) : (l.map iE).flatten.all oneA = true := by
  induction l with
  | nil => rfl
  | cons p l ih => simp only [List.map_cons, List.flatten_cons, List.all_append, ih, Bool.and_true]; rfl
set_option maxRecDepth 100000 in
set_option maxHeartbeats 4000000 in
theorem widFloor_ok (a b : Int) (ha : 0 ≤ a) (hb : 0 < b) (hla : (digN a.natAbs).length ≤ 500) (hlb : (digN b.natAbs).length ≤ 500) : FnOk Try.prog 90 [wA a, wA b] (fun q => q = wA (a / b)) := by
  refine fnOk_of (fn := Try.f90) 88 (by kernel_rfl) rfl (by kernel_rfl) (Nat.le_of_ble_eq_true rfl) ?_
  intro e_0 m_0 hA hm_0
  have s0_0 : evA e_0 (.tmp 0) = _ := hA 0 _ rfl
  have s1_0 : evA e_0 (.tmp 1) = _ := hA 1 _ rfl
  have ml_0 : m_0.length = 0 := by rw [hm_0]; rfl
  clear hA hm_0
  have ga := digN_gd a.natAbs; have gb := digN_gd b.natAbs; have va := digN_val a.natAbs; have vb := digN_val b.natAbs; have sa := sgn_bd a; have sp := sgn_t a; have l1 : (digN 1000000000).length ≤ 2 := digN_len (by decide)
  refine aw_seq <| at_ <| al_stm (st_box s0_0 rfl ml_0) trivial rfl (fun m_1 hm_1 => ?_)
  have mo0_1 := m_push hm_1 ml_0
  have ml_1 := m_push_l hm_1 ml_0
  have ml_1 : _ = 1 := ml_1
  clear hm_1
  refine al_stm (st_box (up_m rfl s1_0) rfl ml_1) trivial rfl (fun m_2 hm_2 => ?_)
  have mo1_2 := m_push hm_2 ml_1
  have mo0_2 := m_push_o hm_2 mo0_1
  have ml_2 := m_push_l hm_2 ml_1
  have ml_2 : _ = 2 := ml_2
  clear hm_2 mo0_1
  refine al_stm (st_alloc y54_az145 rfl ml_2) trivial rfl (fun m_3 hm_3 => ?_)
  have mo2_3 := m_push hm_3 ml_2
  simp only [pS, Value.cells, Nat.reduceAdd, iE, rep_iE, set_iE] at mo2_3
  have mo1_3 := m_push_o hm_3 mo1_2
  have mo0_3 := m_push_o hm_3 mo0_2
  have ml_3 := m_push_l hm_3 ml_2
  have ml_3 : _ = 3 := ml_3
  clear hm_3 mo1_2 mo0_2
  refine ae3 (u2 rfl up_h) (up_m rfl up_h) up_h ?_; clear s0_0 s1_0; intro e_4 s2_4 s3_4 s4_4
  refine then_n <| aw_seq <| aw_seq <| at_ <| ar (ro_fld_ptr y54_fl145_0 rfl s2_4) rfl <| ar (ro_eq (ro_ld_ptr y54_ty3 rfl mo0_3 up_h (nle rfl)) (by simp only [pS, Value.cells, Nat.reduceAdd, iE, rep_iE, set_iE] <;> rfl)) rfl ?_
  refine ar (ro_eql up_h ev_c) rfl ?_
  refine ae4 (up_m rfl (u2 rfl s2_4)) (up_m rfl (u2 rfl s3_4)) (up_m rfl (u2 rfl s4_4)) up_h ?_; clear s2_4 s3_4 s4_4; intro e_5 s2_5 s3_5 s4_5 s14_5
  refine then_n <| aw_case s14_5 (fun hq_6 => ?_) (fun hq_6 => ?_)
  ·replace hq_6 := bt hq_6
   refine aw_seq <| at_ <| ar (ro_build evP_nil y54_bz145 y54_bu145 y54_bp145 rfl) rfl ?_
   refine al_stm (st_store (up_m rfl s4_5) up_h rfl rfl mo2_3 y54_sz145 rfl (nle rfl)) trivial rfl (fun m_7 hm_7 => ?_)
   have mo2_7 := m_set hm_7 mo2_3
   simp only [pS, Value.cells, Nat.reduceAdd, iE, rep_iE, set_iE] at mo2_7
   have mo1_7 := m_set_o hm_7 mo1_3 (by decide)
   have mo0_7 := m_set_o hm_7 mo0_3 (by decide)
   have ml_7 := m_set_l hm_7 ml_3
   clear hm_7 mo2_3 mo1_3 mo0_3
   refine ae1 (up_n (up_m rfl s4_5)) ?_; clear s14_5 s2_5 s3_5 s4_5; intro e_8 s4_8
   refine then_n <| aw_ret <| then_r <| ret1 (.inr rfl) (by kernel_rfl) (resV_cell s4_8 mo2_7 y54_ty145 (nle rfl) (by simp)) (vw_r (vw_agg (vwl_cons (.ro _ rfl) (vwl_cons (.nil 1) vwl_nil)))) ?_
   clear s4_8 mo2_7 mo1_7 mo0_7 ml_7
   (have h0 := sgn_0.1 (show sgnV a = 0 by assumption); rw [h0, Int.zero_ediv]; exact wA_z trivial)
  replace hq_6 := bf hq_6
  (have hap : 0 < a := (by have := mt sp.1.2 (by assumption); omega); have hs1 := sgn_pos hap; have w0 : WF (digN a.natAbs) b (List.replicate (((digN a.natAbs).length : Nat) : Int).toNat 0) (((digN a.natAbs).length : Int) - 1 + 1).toNat 0 := (by rw [Int.toNat_natCast, show (((digN a.natAbs).length : Int) - 1 + 1).toNat = (digN a.natAbs).length by omega]; exact WF.first hb))
  refine aw_skip <| then_n <| aw_seq <| at_ <| ar (ro_fld_ptr y54_fl145_1 rfl s2_5) rfl <| ar (ro_eq (ro_ld_ptr y54_ty49 rfl mo0_3 up_h (nle rfl)) (by simp only [pS, Value.cells, Nat.reduceAdd, iE, rep_iE, set_iE] <;> rfl)) rfl ?_
  refine ar (ro_eq (ro_len_row up_h rfl y54_sl49.1) (by simp only [lnS] <;> rfl)) rfl ?_
  refine al_stm (st_mk y54_sl49 rfl rfl ml_3 up_h up_h (by omega) (by omega)) trivial rfl (fun m_9 hm_9 => ?_)
  have mo3_9 := m_push hm_9 ml_3
  simp only [pS, Value.cells, Nat.reduceAdd, iE, rep_iE, set_iE] at mo3_9
  have mo2_9 := m_push_o hm_9 mo2_3
  have mo1_9 := m_push_o hm_9 mo1_3
  have mo0_9 := m_push_o hm_9 mo0_3
  have ml_9 := m_push_l hm_9 ml_3
  have ml_9 : _ = 4 := ml_9
  clear hm_9 mo2_3 mo1_3 mo0_3
  refine ar (ro_lit0r y54_sl49) rfl <| ar (ro_assign (up_m rfl up_h)) rfl <| ar (ro_assign (up_m rfl up_h)) rfl <| ae5 (up_m rfl (u2 rfl (u4 rfl s2_5))) (up_m rfl (u2 rfl (u4 rfl s3_5))) (up_m rfl (u2 rfl (u4 rfl s4_5))) (up_m rfl up_h) up_h ?_; clear s14_5 s2_5 s3_5 s4_5; intro e_10 s2_10 s3_10 s4_10 s5_10 s6_10
  refine then_n <| aw_seq <| aw_seq <| at_ <| ar (ro_fld_ptr y54_fl145_1 rfl s2_10) rfl <| ar (ro_eq (ro_ld_ptr y54_ty49 rfl mo0_9 up_h (nle rfl)) (by simp only [pS, Value.cells, Nat.reduceAdd, iE, rep_iE, set_iE] <;> rfl)) rfl ?_
  refine ar (ro_eq (ro_len_row up_h rfl y54_sl49.1) (by simp only [lnS] <;> rfl)) rfl ?_
  (refine ar (ro_sub' up_h ev_c ?_) rfl ?_; · (unfold In64; omega))
  refine ar (ro_assign up_h) rfl <| ae6 (up_m rfl (u4 rfl s2_10)) (up_m rfl (u4 rfl s3_10)) (up_m rfl (u4 rfl s4_10)) (up_m rfl (u4 rfl s5_10)) (up_m rfl (u4 rfl s6_10)) up_h ?_; clear s2_10 s3_10 s4_10 s5_10 s6_10; intro e_11 s2_11 s3_11 s4_11 s5_11 s6_11 s7_11
  refine then_n <| aw_block <| aw_loop (S := (Int × Int × List Int × List Int)) (fun s e mem => match s with | ⟨i, r, ls, qs⟩ => (evA e (.tmp 7) = .v (.int .i64 i)) ∧ (evA e (.tmp 6) = .row 1 (ls.map iE)) ∧ (evA e (.tmp 2) = evA e_11 (.tmp 2)) ∧ (evA e (.tmp 3) = evA e_11 (.tmp 3)) ∧ (evA e (.tmp 4) = evA e_11 (.tmp 4)) ∧ (evA e (.tmp 5) = evA e_11 (.tmp 5)) ∧ (mem[3]? = some (.row 3 1 (qs.map iE))) ∧ (mem[2]? = m_9[2]?) ∧ (mem[1]? = m_9[1]?) ∧ (mem[0]? = m_9[0]?) ∧ (∃ n, mem.length = n ∧ 4 ≤ n) ∧ ((-1 ≤ i ∧ i < (digN a.natAbs).length ∧ ls = digN r.toNat ∧ WF (digN a.natAbs) b qs (i + 1).toNat r))) (fun s => match s with | ⟨i, r, ls, qs⟩ => (i + 1).toNat) ⟨_, 0, [], _⟩ ⟨s7_11, s6_11, rfl, rfl, rfl, rfl, mo3_9, rfl, rfl, rfl, ⟨_, ml_9, Nat.le_refl _⟩, ?_⟩ ?_
  · (exact ⟨by omega, by omega, digN_0.symm, w0⟩)
  · rintro ⟨i, r, ls, qs⟩ e_12 m_12 ⟨s7_12, s6_12, k2_12, k3_12, k4_12, k5_12, mo3_12, mk2_12, mk1_12, mk0_12, ⟨n_12, ml_12, hn_12⟩, hinv⟩
    have s2_12 := k2_12.trans s2_11
    have s3_12 := k3_12.trans s3_11
    have s4_12 := k4_12.trans s4_11
    have s5_12 := k5_12.trans s5_11
    have mo2_12 := mk2_12.trans mo2_9
    have mo1_12 := mk1_12.trans mo1_9
    have mo0_12 := mk0_12.trans mo0_9
    (obtain ⟨p1, p2, p3, p4⟩ := hinv; have pr := p4.r0; have pl := p4.len; have d1 := ga.at i.toNat; have hll : ls.length ≤ 500 := (by rw [p3]; exact Nat.le_trans (digN_mono (by omega)) hlb))
    refine aw_seq <| aw_seq <| at_ <| ar (ro_move s7_12) rfl <| ar (ro_geq up_h ev_c) rfl <| ae7 (u2 rfl s2_12) (u2 rfl s3_12) (u2 rfl s4_12) (u2 rfl s5_12) (u2 rfl s6_12) (u2 rfl s7_12) up_h ?_; clear s2_12 s3_12 s4_12 s5_12 s6_12 s7_12; intro e_13 s2_13 s3_13 s4_13 s5_13 s6_13 s7_13 s26_13
    refine then_n <| aw_case s26_13 (fun hq_14 => ?_) (fun hq_14 => ?_)
    ·replace hq_14 := bt hq_14
     (have gl : GD ((digN a.natAbs).getD i.toNat default :: ls) := (GD.one d1).app (b := ls) (by rw [p3]; exact digN_gd _); have hvl : valD ((digN a.natAbs).getD i.toNat default :: ls) = ((digN a.natAbs).getD i.toNat default + 1000000000 * r) := (by rw [valD, p3, digN_val]; omega); have tr := (trimmed_ok _ gl (by simp; omega)).mono (fun q h => show q = dA ((digN a.natAbs).getD i.toNat default + 1000000000 * r).toNat from h.trans (by rw [hvl])); have hDb : ((digN a.natAbs).getD i.toNat default + 1000000000 * r) < b * 1000000000 := (by omega); have hDl : (digN ((digN a.natAbs).getD i.toNat default + 1000000000 * r).toNat).length ≤ 502 := Nat.le_trans (digN_mono (show ((digN a.natAbs).getD i.toNat default + 1000000000 * r).toNat ≤ b.natAbs * 1000000000 by omega)) (digN_mul_len hlb l1))
     refine aw_skip <| then_n <| aw_seq <| aw_block <| aw_seq <| at_ <| ar (ro_fld_ptr y54_fl145_1 rfl s2_13) rfl <| ar (ro_eq (ro_ld_ptr y54_ty49 rfl mo0_12 up_h (nle rfl)) (by simp only [pS, Value.cells, Nat.reduceAdd, iE, rep_iE, set_iE] <;> rfl)) rfl ?_
     refine ar (ro_move (u2 rfl s7_13)) rfl <| ar (ro_eq (ro_ix y54_sl49 (up_m rfl up_h) up_h (by omega) (by first | (refine idx_map ?_; first | omega | (simp only [lnS]; omega)) | (refine idx_mapI ?_; first | omega | (simp only [lnS]; omega)) | (refine idx_mapN ?_; first | omega | (simp only [lnS]; omega)) | rfl)) (by simp only [pS, Value.cells, Nat.reduceAdd, iE, rep_iE, set_iE] <;> rfl)) rfl ?_
     refine ar (ro_eq (ro_ld_ref y54_ty3 rfl up_h (nle rfl)) (by simp only [pS, Value.cells, Nat.reduceAdd, iE, rep_iE, set_iE] <;> rfl)) rfl ?_
     refine al_stm (st_lit y54_sl49 ml_12 (evP_cons up_h evP_nil) rfl rfl rfl rfl) trivial rfl (fun m_15 hm_15 => ?_)
     have mon_12_15 := m_push hm_15 ml_12
     have mo3_15 := m_push_o hm_15 mo3_12
     have mo2_15 := m_push_o hm_15 mo2_12
     have mo1_15 := m_push_o hm_15 mo1_12
     have mo0_15 := m_push_o hm_15 mo0_12
     have ml_15 := m_push_l hm_15 ml_12
     clear hm_15 mo3_12 mo2_12 mo1_12 mo0_12
     refine ar (ro_move (u2 rfl (u4 rfl s6_13))) rfl <| al_stm (st_app y54_sl49 rfl ml_15 mon_12_15 (up_m rfl up_h) up_h (by exact iE_one _) (by simp only [lnS] <;> omega)) trivial rfl (fun m_16 hm_16 => ?_)
     have mon_12_1_16 := m_swap hm_16 ml_15
     simp only [pS, Value.cells, Nat.reduceAdd, iE, rep_iE, set_iE] at mon_12_1_16
     have mo3_16 := m_swap_o hm_16 mo3_15 (by omega)
     have mo2_16 := m_swap_o hm_16 mo2_15 (by omega)
     have mo1_16 := m_swap_o hm_16 mo1_15 (by omega)
     have mo0_16 := m_swap_o hm_16 mo0_15 (by omega)
     have ml_16 := m_swap_l hm_16 ml_15
     clear hm_16 mon_12_15 mo3_15 mo2_15 mo1_15 mo0_15
     refine al_freezeR up_h mon_12_1_16 (fun m_17 e_17 hm_17 he_17 => ?_)
     have mo3_17 := m_set_o hm_17 mo3_16 (by omega)
     have mo2_17 := m_set_o hm_17 mo2_16 (by omega)
     have mo1_17 := m_set_o hm_17 mo1_16 (by omega)
     have mo0_17 := m_set_o hm_17 mo0_16 (by omega)
     have ml_17 := m_set_l hm_17 ml_16
     have s2_17 : evA e_17 (.tmp 2) = _ := (congrArg (fun q => evA q (.tmp 2)) he_17).trans (up_m rfl (u8 rfl s2_13))
     have s3_17 : evA e_17 (.tmp 3) = _ := (congrArg (fun q => evA q (.tmp 3)) he_17).trans (up_m rfl (u8 rfl s3_13))
     have s4_17 : evA e_17 (.tmp 4) = _ := (congrArg (fun q => evA q (.tmp 4)) he_17).trans (up_m rfl (u8 rfl s4_13))
     have s5_17 : evA e_17 (.tmp 5) = _ := (congrArg (fun q => evA q (.tmp 5)) he_17).trans (up_m rfl (u8 rfl s5_13))
     have s6_17 : evA e_17 (.tmp 6) = _ := (congrArg (fun q => evA q (.tmp 6)) he_17).trans (up_m rfl (u8 rfl s6_13))
     have s7_17 : evA e_17 (.tmp 7) = _ := (congrArg (fun q => evA q (.tmp 7)) he_17).trans (up_m rfl (u8 rfl s7_13))
     have s26_17 : evA e_17 (.tmp 26) = _ := (congrArg (fun q => evA q (.tmp 26)) he_17).trans (up_m rfl (u8 rfl s26_13))
     have s29_17 : evA e_17 (.tmp 29) = _ := (congrArg (fun q => evA q (.tmp 29)) he_17).trans (up_m rfl (up_m rfl (u2 rfl (u4 rfl up_h))))
     have s30_17 : evA e_17 (.tmp 30) = _ := (congrArg (fun q => evA q (.tmp 30)) he_17).trans (up_m rfl (u2 rfl (u4 rfl up_h)))
     have s31_17 : evA e_17 (.tmp 31) = _ := (congrArg (fun q => evA q (.tmp 31)) he_17).trans (up_m rfl (up_m rfl (u4 rfl up_h)))
     have s32_17 : evA e_17 (.tmp 32) = _ := (congrArg (fun q => evA q (.tmp 32)) he_17).trans (up_m rfl (u4 rfl up_h))
     have s33_17 : evA e_17 (.tmp 33) = _ := (congrArg (fun q => evA q (.tmp 33)) he_17).trans (up_m rfl (up_m rfl (u2 rfl up_h)))
     have s34_17 : evA e_17 (.tmp 34) = _ := (congrArg (fun q => evA q (.tmp 34)) he_17).trans (up_m rfl (u2 rfl up_h))
     have s35_17 : evA e_17 (.tmp 35) = _ := (congrArg (fun q => evA q (.tmp 35)) he_17).trans (up_m rfl (up_m rfl up_h))
     have s36_17 : evA e_17 (.tmp 36) = _ := (congrArg (fun q => evA q (.tmp 36)) he_17).trans up_h
     clear hm_17 he_17
     refine ar (ro_call (evL_cons s36_17 evL_nil) rfl (tr) y54_hcf141) rfl <| ar (ro_assign up_h) rfl <| ae6 (u2 rfl s2_17) (u2 rfl s3_17) (u2 rfl s4_17) (u2 rfl s5_17) up_h (u2 rfl s7_17) ?_; clear s26_17 s29_17 s2_17 s30_17 s31_17 s32_17 s33_17 s34_17 s35_17 s36_17 s3_17 s4_17 s5_17 s6_17 s7_17; intro e_18 s2_18 s3_18 s4_18 s5_18 s6_18 s7_18
     refine then_n <| aw_seq <| at_ <| ar (ro_assign ev_c) rfl <| ar (ro_assign ev_c) rfl <| ae8 (u2 rfl s2_18) (u2 rfl s3_18) (u2 rfl s4_18) (u2 rfl s5_18) (u2 rfl s6_18) (u2 rfl s7_18) (up_m rfl up_h) up_h ?_; clear s2_18 s3_18 s4_18 s5_18 s6_18 s7_18; intro e_19 s2_19 s3_19 s4_19 s5_19 s6_19 s7_19 s8_19 s9_19
     refine then_n <| aw_seq <| aw_block <| aw_loop (S := (Int × Int)) (fun s e mem => match s with | ⟨x, y⟩ => (evA e (.tmp 8) = .v (.int .i64 x)) ∧ (evA e (.tmp 9) = .v (.int .i64 y)) ∧ (evA e (.tmp 2) = evA e_19 (.tmp 2)) ∧ (evA e (.tmp 3) = evA e_19 (.tmp 3)) ∧ (evA e (.tmp 4) = evA e_19 (.tmp 4)) ∧ (evA e (.tmp 5) = evA e_19 (.tmp 5)) ∧ (evA e (.tmp 6) = evA e_19 (.tmp 6)) ∧ (evA e (.tmp 7) = evA e_19 (.tmp 7)) ∧ (mem[3]? = m_17[3]?) ∧ (mem[2]? = m_17[2]?) ∧ (mem[1]? = m_17[1]?) ∧ (mem[0]? = m_17[0]?) ∧ (mem.length = n_12 + 1 + 1) ∧ (((0 ≤ x ∧ x ≤ y ∧ y ≤ 999999999) ∧ b * x ≤ ((digN a.natAbs).getD i.toNat default + 1000000000 * r) ∧ ((digN a.natAbs).getD i.toNat default + 1000000000 * r) < b * (y + 1)))) (fun s => match s with | ⟨x, y⟩ => (y - x).toNat) ⟨_, _⟩ ⟨s8_19, s9_19, rfl, rfl, rfl, rfl, rfl, rfl, rfl, rfl, rfl, rfl, ml_17, ?_⟩ ?_
     · (exact ⟨by omega, by rw [Int.mul_zero]; omega, by omega⟩)
     · rintro ⟨x, y⟩ e_20 m_20 ⟨s8_20, s9_20, k2_20, k3_20, k4_20, k5_20, k6_20, k7_20, mk3_20, mk2_20, mk1_20, mk0_20, ml_20, hinv⟩
       have s2_20 := k2_20.trans s2_19
       have s3_20 := k3_20.trans s3_19
       have s4_20 := k4_20.trans s4_19
       have s5_20 := k5_20.trans s5_19
       have s6_20 := k6_20.trans s6_19
       have s7_20 := k7_20.trans s7_19
       have mo3_20 := mk3_20.trans mo3_17
       have mo2_20 := mk2_20.trans mo2_17
       have mo1_20 := mk1_20.trans mo1_17
       have mo0_20 := mk0_20.trans mo0_17
       (obtain ⟨k1, k2, k3⟩ := hinv)
       refine aw_seq <| aw_seq <| at_ <| ar (ro_move s8_20) rfl <| ar (ro_move (up_m rfl s9_20)) rfl <| ar (ro_lss (up_m rfl up_h) up_h) rfl <| ae9 (up_m rfl (u2 rfl s2_20)) (up_m rfl (u2 rfl s3_20)) (up_m rfl (u2 rfl s4_20)) (up_m rfl (u2 rfl s5_20)) (up_m rfl (u2 rfl s6_20)) (up_m rfl (u2 rfl s7_20)) (up_m rfl (u2 rfl s8_20)) (up_m rfl (u2 rfl s9_20)) up_h ?_; clear s2_20 s3_20 s4_20 s5_20 s6_20 s7_20 s8_20 s9_20; intro e_21 s2_21 s3_21 s4_21 s5_21 s6_21 s7_21 s8_21 s9_21 s40_21
       refine then_n <| aw_case s40_21 (fun hq_22 => ?_) (fun hq_22 => ?_)
       ·replace hq_22 := bt hq_22
        (have e1 := Int.tdiv_eq_ediv_of_nonneg (show 0 ≤ x + y + 1 by omega) (b := 2); have lm : (digN ((x + y + 1).tdiv 2).natAbs).length ≤ 1 := digN_len (by omega); have wm := widMul_ok b ((x + y + 1).tdiv 2) (by omega) (by omega); have lbm : (digN (b * (x + y + 1).tdiv 2).natAbs).length ≤ 501 := (by rw [Int.natAbs_mul]; exact digN_mul_len hlb lm); have cm := cmpDigits_ok (b * (x + y + 1).tdiv 2).natAbs ((digN a.natAbs).getD i.toNat default + 1000000000 * r).toNat (by omega) (by omega); have ct := sgn_t (((b * (x + y + 1).tdiv 2).natAbs : Int) - (((digN a.natAbs).getD i.toNat default + 1000000000 * r).toNat : Int)); have hnn := Int.mul_nonneg (show 0 ≤ b by omega) (show 0 ≤ (x + y + 1).tdiv 2 by omega))
        refine aw_skip <| then_n <| aw_block <| aw_seq <| at_ <| ar (ro_move s8_21) rfl <| ar (ro_move (up_m rfl s9_21)) rfl ?_
        (refine ar (ro_add' (up_m rfl up_h) up_h ?_) rfl ?_; · (unfold In64; omega))
        (refine ar (ro_add' up_h ev_c ?_) rfl ?_; · (unfold In64; omega))
        (refine ar (ro_quo' up_h ev_c (by decide) ?_) rfl ?_; · (unfold In64; omega))
        refine ar (ro_assign up_h) rfl <| ae9 (u2 rfl (u4 rfl s2_21)) (u2 rfl (u4 rfl s3_21)) (u2 rfl (u4 rfl s4_21)) (u2 rfl (u4 rfl s5_21)) (u2 rfl (u4 rfl s6_21)) (u2 rfl (u4 rfl s7_21)) (u2 rfl (u4 rfl s8_21)) (u2 rfl (u4 rfl s9_21)) up_h ?_; clear s2_21 s3_21 s40_21 s4_21 s5_21 s6_21 s7_21 s8_21 s9_21; intro e_23 s2_23 s3_23 s4_23 s5_23 s6_23 s7_23 s8_23 s9_23 s10_23
        refine then_n <| aw_seq <| at_ <| ar (ro_fld_ptr y54_fl145_1 rfl s3_23) rfl <| ar (ro_eq (ro_ld_ptr y54_ty49 rfl mo1_20 up_h (nle rfl)) (by simp only [pS, Value.cells, Nat.reduceAdd, iE, rep_iE, set_iE] <;> rfl)) rfl ?_
        refine ar (ro_call (evL_cons ev_c (evL_cons up_h evL_nil)) rfl (wide1_ok b hb hlb) y54_hcf140) rfl <| ar (ro_move (up_m rfl (u2 rfl s10_23))) rfl <| ar (ro_call (evL_cons up_h evL_nil) rfl (widOf_ok _ (by omega)) y54_hcf88) rfl ?_
        refine ar (ro_call (evL_cons (u2 rfl up_h) (evL_cons up_h evL_nil)) rfl (wm) y54_hcf87) rfl <| ar (ro_eq (ro_fld y54_fl145_1 up_h (nle rfl) rfl) (by simp only [pS, Value.cells, Nat.reduceAdd, iE, rep_iE, set_iE] <;> rfl)) rfl ?_
        refine ar (ro_move (up_m rfl (u2 rfl (u4 rfl s6_23)))) rfl <| ar (ro_call (evL_cons (up_m rfl up_h) (evL_cons up_h evL_nil)) rfl (cm) y54_hcf142) rfl <| ar (ro_leq up_h ev_c) rfl <| ae10 (u2 rfl (u8 rfl s2_23)) (u2 rfl (u8 rfl s3_23)) (u2 rfl (u8 rfl s4_23)) (u2 rfl (u8 rfl s5_23)) (u2 rfl (u8 rfl s6_23)) (u2 rfl (u8 rfl s7_23)) (u2 rfl (u8 rfl s8_23)) (u2 rfl (u8 rfl s9_23)) (u2 rfl (u8 rfl s10_23)) up_h ?_; clear s10_23 s2_23 s3_23 s4_23 s5_23 s6_23 s7_23 s8_23 s9_23; intro e_24 s2_24 s3_24 s4_24 s5_24 s6_24 s7_24 s8_24 s9_24 s10_24 s55_24
        refine then_n <| aw_case s55_24 (fun hq_25 => ?_) (fun hq_25 => ?_)
        ·replace hq_25 := bt hq_25
         refine at_ <| ar (ro_move s10_24) rfl <| ar (ro_assign up_h) rfl <| ae8 (u2 rfl s2_24) (u2 rfl s3_24) (u2 rfl s4_24) (u2 rfl s5_24) (u2 rfl s6_24) (u2 rfl s7_24) up_h (u2 rfl s9_24) ?_; clear s10_24 s2_24 s3_24 s4_24 s55_24 s5_24 s6_24 s7_24 s8_24 s9_24; intro e_26 s2_26 s3_26 s4_26 s5_26 s6_26 s7_26 s8_26 s9_26
         refine block_n <| then_n <| ⟨⟨_, _⟩, ⟨s8_26, s9_26, (s2_26.trans s2_19.symm), (s3_26.trans s3_19.symm), (s4_26.trans s4_19.symm), (s5_26.trans s5_19.symm), (s6_26.trans s6_19.symm), (s7_26.trans s7_19.symm), (mo3_20.trans mo3_17.symm), (mo2_20.trans mo2_17.symm), (mo1_20.trans mo1_17.symm), (mo0_20.trans mo0_17.symm), ml_20, ?_⟩, ?_⟩
         · (refine ⟨by omega, ?_, ?_⟩ <;> first | exact k2 | exact k3 | omega | (rw [Int.sub_add_cancel]; omega))
         · ((try dsimp only); omega)
        replace hq_25 := bf hq_25
        refine at_ <| ar (ro_move s10_24) rfl ?_
        (refine ar (ro_sub' up_h ev_c ?_) rfl ?_; · (unfold In64; omega))
        refine ar (ro_assign up_h) rfl <| ae8 (up_m rfl (u2 rfl s2_24)) (up_m rfl (u2 rfl s3_24)) (up_m rfl (u2 rfl s4_24)) (up_m rfl (u2 rfl s5_24)) (up_m rfl (u2 rfl s6_24)) (up_m rfl (u2 rfl s7_24)) (up_m rfl (u2 rfl s8_24)) up_h ?_; clear s10_24 s2_24 s3_24 s4_24 s55_24 s5_24 s6_24 s7_24 s8_24 s9_24; intro e_27 s2_27 s3_27 s4_27 s5_27 s6_27 s7_27 s8_27 s9_27
        refine block_n <| then_n <| ⟨⟨_, _⟩, ⟨s8_27, s9_27, (s2_27.trans s2_19.symm), (s3_27.trans s3_19.symm), (s4_27.trans s4_19.symm), (s5_27.trans s5_19.symm), (s6_27.trans s6_19.symm), (s7_27.trans s7_19.symm), (mo3_20.trans mo3_17.symm), (mo2_20.trans mo2_17.symm), (mo1_20.trans mo1_17.symm), (mo0_20.trans mo0_17.symm), ml_20, ?_⟩, ?_⟩
        · (refine ⟨by omega, ?_, ?_⟩ <;> first | exact k2 | exact k3 | omega | (rw [Int.sub_add_cancel]; omega))
        · ((try dsimp only); omega)
       replace hq_22 := bf hq_22
       (have hx0 : x = y := (by omega); have lx : (digN x.natAbs).length ≤ 1 := digN_len (by omega); have wm := widMul_ok b x (by omega) (by omega); have hnx := Int.mul_nonneg (show 0 ≤ b by omega) (show 0 ≤ x by omega); have sd := subDigits_ok ((digN a.natAbs).getD i.toNat default + 1000000000 * r).toNat (b * x).natAbs (by omega) (by omega))
       refine aw_exit <| then_x <| then_x <| block_hit <| then_n <| aw_seq <| at_ <| ar (ro_move s5_21) rfl <| ar (ro_move (up_m rfl s7_21)) rfl <| ar (ro_move (u2 rfl s8_21)) rfl <| ar (ro_ix_own y54_sl49 mo3_20 (u2 rfl up_h) (up_m rfl up_h) (by omega) (by simp only [lnS] <;> omega)) rfl ?_
       refine al_stm (st_store_el up_h (up_m rfl up_h) rfl rfl rfl mo3_20 (Nat.add_zero _).symm (by first | (refine idx_map ?_; first | omega | (simp only [lnS]; omega)) | (refine idx_mapI ?_; first | omega | (simp only [lnS]; omega)) | (refine idx_mapN ?_; first | omega | (simp only [lnS]; omega)) | rfl) y54_sz3 rfl (nle rfl)) trivial rfl (fun m_28 hm_28 => ?_)
       have mo3_28 := m_set hm_28 mo3_20
       simp only [pS, Value.cells, Nat.reduceAdd, iE, rep_iE, set_iE] at mo3_28
       have mo2_28 := m_set_o hm_28 mo2_20 (by decide)
       have mo1_28 := m_set_o hm_28 mo1_20 (by decide)
       have mo0_28 := m_set_o hm_28 mo0_20 (by decide)
       have ml_28 := m_set_l hm_28 ml_20
       clear hm_28 mo3_20 mo2_20 mo1_20 mo0_20
       refine ae7 (up_n (u4 rfl s2_21)) (up_n (u4 rfl s3_21)) (up_n (u4 rfl s4_21)) (up_n (u4 rfl s5_21)) (up_n (u4 rfl s6_21)) (up_n (u4 rfl s7_21)) (up_n (u4 rfl s8_21)) ?_; clear s2_21 s3_21 s40_21 s4_21 s5_21 s6_21 s7_21 s8_21 s9_21; intro e_29 s2_29 s3_29 s4_29 s5_29 s6_29 s7_29 s8_29
       refine then_n <| at_ <| ar (ro_move s6_29) rfl <| ar (ro_fld_ptr y54_fl145_1 rfl (up_m rfl s3_29)) rfl <| ar (ro_eq (ro_ld_ptr y54_ty49 rfl mo1_28 up_h (nle rfl)) (by simp only [pS, Value.cells, Nat.reduceAdd, iE, rep_iE, set_iE] <;> rfl)) rfl ?_
       refine ar (ro_call (evL_cons ev_c (evL_cons up_h evL_nil)) rfl (wide1_ok b hb hlb) y54_hcf140) rfl <| ar (ro_move (u4 rfl s8_29)) rfl <| ar (ro_call (evL_cons up_h evL_nil) rfl (widOf_ok _ (by omega)) y54_hcf88) rfl ?_
       refine ar (ro_call (evL_cons (u2 rfl up_h) (evL_cons up_h evL_nil)) rfl (wm) y54_hcf87) rfl <| ar (ro_eq (ro_fld y54_fl145_1 up_h (nle rfl) rfl) (by simp only [pS, Value.cells, Nat.reduceAdd, iE, rep_iE, set_iE] <;> rfl)) rfl ?_
       refine ar (ro_call (evL_cons (up_m rfl (u2 rfl (u4 rfl up_h))) (evL_cons up_h evL_nil)) rfl (sd) y54_hcf143) rfl <| ar (ro_assign up_h) rfl <| ae6 (u2 rfl (u8 rfl s2_29)) (u2 rfl (u8 rfl s3_29)) (u2 rfl (u8 rfl s4_29)) (u2 rfl (u8 rfl s5_29)) up_h (u2 rfl (u8 rfl s7_29)) ?_; clear s2_29 s3_29 s4_29 s5_29 s6_29 s7_29 s8_29; intro e_30 s2_30 s3_30 s4_30 s5_30 s6_30 s7_30
       refine block_n <| then_n <| at_ <| ar (ro_move s7_30) rfl ?_
       (refine ar (ro_sub' up_h ev_c ?_) rfl ?_; · (unfold In64; omega))
       refine ar (ro_assign up_h) rfl <| ae6 (up_m rfl (u2 rfl s2_30)) (up_m rfl (u2 rfl s3_30)) (up_m rfl (u2 rfl s4_30)) (up_m rfl (u2 rfl s5_30)) (up_m rfl (u2 rfl s6_30)) up_h ?_; clear s2_30 s3_30 s4_30 s5_30 s6_30 s7_30; intro e_31 s2_31 s3_31 s4_31 s5_31 s6_31 s7_31
       refine then_n <| ⟨⟨_, ((digN a.natAbs).getD i.toNat default + 1000000000 * r) - b * x, _, _⟩, ⟨s7_31, s6_31, (s2_31.trans s2_11.symm), (s3_31.trans s3_11.symm), (s4_31.trans s4_11.symm), (s5_31.trans s5_11.symm), mo3_28, (mo2_28.trans mo2_9.symm), (mo1_28.trans mo1_9.symm), (mo0_28.trans mo0_9.symm), ⟨_, ml_28, by omega⟩, ?_⟩, ?_⟩
       · (have hx : x = y := (by omega); have hsub : b * (y + 1) = b * y + b := (by rw [Int.mul_add, Int.mul_one]); rw [← hx] at k3 hsub; refine ⟨by omega, by omega, ?_, ?_⟩; exact (congrArg digN (show ((digN a.natAbs).getD i.toNat default + 1000000000 * r).toNat - (b * x).natAbs = (((digN a.natAbs).getD i.toNat default + 1000000000 * r) - b * x).toNat by omega)); (rw [show (i - 1 + 1).toNat = i.toNat by omega]; rw [show (i + 1).toNat = i.toNat + 1 by omega] at p4; exact p4.next (by omega) rfl (by omega) (by omega)))
       · ((try dsimp only); omega)
    replace hq_14 := bf hq_14
    (have hi0 : (i + 1).toNat = 0 := (by omega); have p5 := p4; rw [hi0] at p5; have hv := p5.done; have gq := p5.gd; have wo := wideOf_ok (sgnV a) qs gq (by omega); have hdn := Int.ediv_nonneg ha (Int.le_of_lt hb))
    refine aw_exit <| then_x <| then_x <| block_hit <| then_n <| aw_seq <| aw_freezeR s5_13 mo3_12 (fun m_32 e_32 hm_32 he_32 => ?_)
    have mo2_32 := m_set_o hm_32 mo2_12 (by decide)
    have mo1_32 := m_set_o hm_32 mo1_12 (by decide)
    have mo0_32 := m_set_o hm_32 mo0_12 (by decide)
    have ml_32 := m_set_l hm_32 ml_12
    have s2_32 : evA e_32 (.tmp 2) = _ := (congrArg (fun q => evA q (.tmp 2)) he_32).trans (up_m rfl s2_13)
    have s3_32 : evA e_32 (.tmp 3) = _ := (congrArg (fun q => evA q (.tmp 3)) he_32).trans (up_m rfl s3_13)
    have s4_32 : evA e_32 (.tmp 4) = _ := (congrArg (fun q => evA q (.tmp 4)) he_32).trans (up_m rfl s4_13)
    have s5_32 : evA e_32 (.tmp 5) = _ := (congrArg (fun q => evA q (.tmp 5)) he_32).trans up_h
    have s6_32 : evA e_32 (.tmp 6) = _ := (congrArg (fun q => evA q (.tmp 6)) he_32).trans (up_m rfl s6_13)
    have s7_32 : evA e_32 (.tmp 7) = _ := (congrArg (fun q => evA q (.tmp 7)) he_32).trans (up_m rfl s7_13)
    have s26_32 : evA e_32 (.tmp 26) = _ := (congrArg (fun q => evA q (.tmp 26)) he_32).trans (up_m rfl s26_13)
    clear hm_32 he_32
    refine at_ <| ar (ro_fld_ptr y54_fl145_0 rfl s2_32) rfl <| ar (ro_eq (ro_ld_ptr y54_ty3 rfl mo0_32 up_h (nle rfl)) (by simp only [pS, Value.cells, Nat.reduceAdd, iE, rep_iE, set_iE] <;> rfl)) rfl ?_
    refine ar (ro_move (u2 rfl s5_32)) rfl <| ar (ro_call (evL_cons (up_m rfl up_h) (evL_cons up_h evL_nil)) rfl (wo) y54_hcf140) rfl <| al_stm (st_alloc y54_az145 rfl ml_32) trivial rfl (fun m_33 hm_33 => ?_)
    have mon_12_33 := m_push hm_33 ml_32
    simp only [pS, Value.cells, Nat.reduceAdd, iE, rep_iE, set_iE] at mon_12_33
    have mo2_33 := m_push_o hm_33 mo2_32
    have mo1_33 := m_push_o hm_33 mo1_32
    have mo0_33 := m_push_o hm_33 mo0_32
    have ml_33 := m_push_l hm_33 ml_32
    clear hm_33 mo2_32 mo1_32 mo0_32
    refine al_stm (st_store up_h (up_m rfl up_h) rfl rfl mon_12_33 y54_sz145 rfl (nle rfl)) trivial rfl (fun m_34 hm_34 => ?_)
    have mon_12_34 := m_set hm_34 mon_12_33
    simp only [pS, Value.cells, Nat.reduceAdd, iE, rep_iE, set_iE] at mon_12_34
    have mo2_34 := m_set_o hm_34 mo2_33 (by omega)
    have mo1_34 := m_set_o hm_34 mo1_33 (by omega)
    have mo0_34 := m_set_o hm_34 mo0_33 (by omega)
    have ml_34 := m_set_l hm_34 ml_33
    clear hm_34 mon_12_33 mo2_33 mo1_33 mo0_33
    refine ae4 (up_n (up_m rfl (u4 rfl s2_32))) (up_n (up_m rfl (u4 rfl s4_32))) (up_n (up_m rfl (u4 rfl s6_32))) (up_n up_h) ?_; clear s26_32 s2_32 s3_32 s4_32 s5_32 s6_32 s7_32; intro e_35 s2_35 s4_35 s6_35 s11_35
    refine then_n <| aw_seq <| aw_seq <| at_ <| ar (ro_fld_ptr y54_fl145_0 rfl s2_35) rfl <| ar (ro_eq (ro_ld_ptr y54_ty3 rfl mo0_34 up_h (nle rfl)) (by simp only [pS, Value.cells, Nat.reduceAdd, iE, rep_iE, set_iE] <;> rfl)) rfl ?_
    refine ar (ro_lss up_h ev_c) rfl <| ar (ro_move up_h) rfl <| al_case up_h (fun hb_36 hq_36 => ?_) (fun hb_36 hq_36 => ?_)
    · replace hq_36 := bt hq_36; exfalso; omega
    replace hq_36 := bf hq_36
    refine al_skip' ⟨_, rfl, .inl hb_36⟩ rfl ?_
    refine al_skip' ⟨_, rfl, .inl (up_m rfl hb_36)⟩ rfl ?_
    refine al_skip' ⟨_, rfl, .inl (u2 rfl hb_36)⟩ rfl ?_
    refine ar (ro_pickF (up_m rfl (u2 rfl hb_36)) ev_c) rfl <| ae3 (u8 rfl s4_35) (u8 rfl s11_35) up_h ?_; clear hb_36 s11_35 s2_35 s4_35 s6_35; intro e_41 s4_41 s11_41 s83_41
    refine then_n <| aw_false s83_41 <| aw_skip <| then_n <| aw_seq <| at_ <| ar (ro_eq (ro_ld_ptr y54_ty145 rfl mon_12_34 s11_41 (nle rfl)) (by simp only [pS, Value.cells, Nat.reduceAdd, iE, rep_iE, set_iE] <;> rfl)) rfl ?_
    refine al_stm (st_store (up_m rfl s4_41) up_h rfl rfl mo2_34 y54_sz145 rfl (nle rfl)) trivial rfl (fun m_43 hm_43 => ?_)
    have mo2_43 := m_set hm_43 mo2_34
    simp only [pS, Value.cells, Nat.reduceAdd, iE, rep_iE, set_iE] at mo2_43
    have mon_12_43 := m_set_o hm_43 mon_12_34 (by omega)
    have mo1_43 := m_set_o hm_43 mo1_34 (by decide)
    have mo0_43 := m_set_o hm_43 mo0_34 (by decide)
    have ml_43 := m_set_l hm_43 ml_34
    clear hm_43 mon_12_34 mo2_34 mo1_34 mo0_34
    refine ae1 (up_n (up_m rfl s4_41)) ?_; clear s11_41 s4_41 s83_41; intro e_44 s4_44
    refine then_n <| aw_ret <| ret1 (.inr rfl) (by kernel_rfl) (resV_cell s4_44 mo2_43 y54_ty145 (nle rfl) (by simp)) (vw_r (.ro _ rfl)) ?_
    clear s4_44 mo2_43 mon_12_43 mo1_43 mo0_43 ml_43
    (exact wA_sg (by rw [hv, va, show ((a.natAbs : Nat) : Int) = a by omega]; omega) (fun h => by rw [sgn_pos hap, sgn_pos (by omega)]))
end Go.Proofs.Ytonjcljnpcmenaa

/- Contracts of chapter 1: gradients and bends. No conditions on a program. -/
namespace Go.Proofs.Ytonjcljnpcmenaa
open Go Go.RowKit Go.Proofs
set_option linter.unusedSimpArgs false
set_option linter.unusedVariables false
end Go.Proofs.Ytonjcljnpcmenaa

/- Contracts of chapter 1: bends; the law on gradients. No conditions on a program. -/
namespace Go.Proofs.Ytonjcljnpcmenaa
open Go Go.RowKit Go.Proofs
set_option linter.unusedSimpArgs false
set_option linter.unusedVariables false
theorem y31_fl26_1 : FldIs Try.prog 26 1 1 false 1 := by unfold FldIs; kernel_rfl
theorem y31_fl26_2 : FldIs Try.prog 26 2 2 false 1 := by unfold FldIs; kernel_rfl
theorem y31_fl70_0 : FldIs Try.prog 70 0 0 false 1 := by unfold FldIs; kernel_rfl
theorem y31_fl87_0 : FldIs Try.prog 87 0 0 false 1 := by unfold FldIs; kernel_rfl
theorem y31_hcf30 : ∀ args w, (callFunc 30 args).run Try.prog w = .ok (.enter 30 args) w := fun _ _ => by kernel_rfl
theorem y31_sl22 : SlIs Try.prog 22 70 4 32 (.agg #[.int .i64 0, .int .i64 0, .int .i64 0, .int .i64 0]) := ⟨by kernel_rfl, by kernel_rfl, by kernel_rfl⟩
theorem y31_sl23 : SlIs Try.prog 23 87 2 16 (.agg #[.int .i64 0, .int .i64 0]) := ⟨by kernel_rfl, by kernel_rfl, by kernel_rfl⟩
theorem y31_ty22 : TyIs Try.prog 22 false 1 := ⟨by kernel_rfl, by kernel_rfl⟩
theorem y31_ty23 : TyIs Try.prog 23 false 1 := ⟨by kernel_rfl, by kernel_rfl⟩
theorem y31_ty3 : TyIs Try.prog 3 false 1 := ⟨by kernel_rfl, by kernel_rfl⟩
set_option maxRecDepth 100000 in
set_option maxHeartbeats 1000000 in
theorem innerErr_ok (l : Lin) (h : Rgt l) (n : Int) : FnOk Try.prog 28 [lnA l, mA n] (fun q => q = mA (misE n 1 (l.js.length - 2))) := by
  have hn1 := h.n1
  have hjs := h.js
  refine fnOk_of (fn := Try.f28) 12 (by kernel_rfl) rfl (by kernel_rfl) (Nat.le_of_ble_eq_true rfl) ?_
  intro e_0 m_0 hA hm_0
  have s0_0 : evA e_0 (.tmp 0) = _ := hA 0 _ rfl
  have s1_0 : evA e_0 (.tmp 1) = _ := hA 1 _ rfl
  have ml_0 : m_0.length = 0 := by rw [hm_0]; rfl
  clear hA hm_0
  refine aw_seq <| at_ <| al_stm (st_box s0_0 rfl ml_0) trivial rfl (fun m_1 hm_1 => ?_)
  have mo0_1 := m_push hm_1 ml_0
  have ml_1 := m_push_l hm_1 ml_0
  have ml_1 : _ = 1 := ml_1
  clear hm_1
  refine ar (ro_assign ev_c) rfl <| ae2 (u2 rfl s1_0) (up_m rfl up_h) ?_; clear s0_0 s1_0; intro e_2 s1_2 s2_2
  refine then_n <| aw_seq <| aw_seq <| at_ <| ar (ro_move s1_2) rfl <| ar (ro_fld_ptr y31_fl26_1 rfl (up_m rfl s2_2)) rfl <| ar (ro_eq (ro_ld_ptr y31_ty22 rfl mo0_1 up_h (nle rfl)) (by simp only [pS, Value.cells, Nat.reduceAdd] <;> rfl)) rfl ?_
  refine ar (ro_eq (ro_len_row up_h rfl y31_sl22.1) (by simp only [lnS] <;> rfl)) rfl ?_
  (refine ar (ro_sub' up_h ev_c ?_) rfl ?_; · (unfold In64; omega))
  refine ar (ro_call (evL_cons (u4 rfl up_h) (evL_cons ev_c (evL_cons up_h evL_nil))) rfl (bWithin_ok _ _ _) y31_hcf30) rfl <| ar (ro_not up_h) rfl <| ae1 up_h ?_; clear s1_2 s2_2; intro e_3 s11_3
  refine then_n <| aw_case s11_3 (fun hq_4 => ?_) (fun hq_4 => ?_)
  ·replace hq_4 := bt' hq_4
   refine aw_seq <| at_ <| ar (ro_assign ev_c) rfl <| ae1 up_h ?_; clear s11_3; intro e_5 s4_5
   refine then_n <| aw_ret <| then_r <| ret1 (.inr rfl) (by kernel_rfl) (resV_tmp s4_5) (.ro _ rfl) ?_
   clear s4_5 mo0_1 ml_1
   (unfold misE; simp_all)
  replace hq_4 := bf' hq_4
  refine aw_skip <| then_n <| aw_seq <| at_ <| ar (ro_assign ev_c) rfl <| ae1 up_h ?_; clear s11_3; intro e_6 s4_6
  refine then_n <| aw_ret <| ret1 (.inr rfl) (by kernel_rfl) (resV_tmp s4_6) (.ro _ rfl) ?_
  clear s4_6 mo0_1 ml_1
  (unfold misE; simp_all)
set_option maxRecDepth 100000 in
set_option maxHeartbeats 4000000 in
theorem slopes_ok (l : Lin) (h : Rgt l) (j : Nat) (hj : 1 ≤ j ∧ j + 2 ≤ l.js.length) : FnOk Try.prog 86 [lnA l, mA j] (fun q => q = .tuple [mA (benN l j), mA (benD l j)]) := by
  refine fnOk_of (fn := Try.f86) 56 (by kernel_rfl) rfl (by kernel_rfl) (Nat.le_of_ble_eq_true rfl) ?_
  intro e_0 m_0 hA hm_0
  have s0_0 : evA e_0 (.tmp 0) = _ := hA 0 _ rfl
  have s1_0 : evA e_0 (.tmp 1) = _ := hA 1 _ rfl
  have ml_0 : m_0.length = 0 := by rw [hm_0]; rfl
  clear hA hm_0
  have hn1 := h.n1; have hn0 := h.n0; have hjs := h.js; have j1 := h.jnt (j - 1) (by omega); have j2 := h.jnt j (by omega); have j3 := h.jnt (j + 1) (by omega); have b1 := h.bea (j - 1) (by omega); have b2 := h.bea j (by omega); have m1 := mul_in (x := (l.js.getD (j + 1) default).acr - (l.js.getD j default).acr) (y := (l.bs.getD (j - 1) default).len) 40000 30000 (by omega) (by omega); have m2 := mul_in (x := (l.js.getD j default).acr - (l.js.getD (j - 1) default).acr) (y := (l.bs.getD j default).len) 40000 30000 (by omega) (by omega); have m3 := mul_in (x := (l.bs.getD (j - 1) default).len) (y := (l.bs.getD j default).len) 30000 30000 (by omega) (by omega)
  refine aw_seq <| at_ <| al_stm (st_box s0_0 rfl ml_0) trivial rfl (fun m_1 hm_1 => ?_)
  have mo0_1 := m_push hm_1 ml_0
  have ml_1 := m_push_l hm_1 ml_0
  have ml_1 : _ = 1 := ml_1
  clear hm_1
  refine ar (ro_assign ev_c) rfl <| ar (ro_assign ev_c) rfl <| ae2 (up_m rfl (u2 rfl s1_0)) (u2 rfl up_h) ?_; clear s0_0 s1_0; intro e_2 s1_2 s2_2
  refine then_n <| aw_seq <| aw_draw 15 (by kernel_rfl) (by kernel_rfl) (by kernel_rfl) (by kernel_rfl) ?_
  refine dr (ro_fld_ptr y31_fl26_2 rfl s2_2) rfl <| dr (ro_eq (ro_ld_ptr y31_ty23 rfl mo0_1 up_h (nle rfl)) (by simp only [pS, Value.cells, Nat.reduceAdd, jnE, beE, Int.toNat_natCast, toNat_suc, toNat_pre] <;> rfl)) rfl ?_
  refine dr (ro_move (u2 rfl s1_2)) rfl ?_
  (refine dr (ro_sub' up_h ev_c ?_) rfl ?_; · (unfold In64; omega))
  refine dr (ro_eq (ro_ix y31_sl23 (u2 rfl up_h) up_h (by omega) (by first | (refine idx_map ?_; first | omega | (simp only [lnS]; omega)) | (refine idx_mapI ?_; first | omega | (simp only [lnS]; omega)) | (refine idx_mapN ?_; first | omega | (simp only [lnS]; omega)) | rfl)) (by simp only [pS, Value.cells, Nat.reduceAdd, jnE, beE, Int.toNat_natCast, toNat_suc, toNat_pre] <;> rfl)) rfl ?_
  refine dr (ro_eq (ro_fld_ref y31_fl87_0 rfl up_h) (by simp only [pS, Value.cells, Nat.reduceAdd, jnE, beE, Int.toNat_natCast, toNat_suc, toNat_pre] <;> rfl)) rfl ?_
  refine dr (ro_eq (ro_ld_ref y31_ty3 rfl up_h (nle rfl)) (by simp only [pS, Value.cells, Nat.reduceAdd, jnE, beE, Int.toNat_natCast, toNat_suc, toNat_pre] <;> rfl)) rfl ?_
  refine dr (ro_fld_ptr y31_fl26_2 rfl (up_m rfl (u2 rfl (u4 rfl s2_2)))) rfl <| dr (ro_eq (ro_ld_ptr y31_ty23 rfl mo0_1 up_h (nle rfl)) (by simp only [pS, Value.cells, Nat.reduceAdd, jnE, beE, Int.toNat_natCast, toNat_suc, toNat_pre] <;> rfl)) rfl ?_
  refine dr (ro_move (up_m rfl (u8 rfl s1_2))) rfl <| dr (ro_eq (ro_ix y31_sl23 (up_m rfl up_h) up_h (by omega) (by first | (refine idx_map ?_; first | omega | (simp only [lnS]; omega)) | (refine idx_mapI ?_; first | omega | (simp only [lnS]; omega)) | (refine idx_mapN ?_; first | omega | (simp only [lnS]; omega)) | rfl)) (by simp only [pS, Value.cells, Nat.reduceAdd, jnE, beE, Int.toNat_natCast, toNat_suc, toNat_pre] <;> rfl)) rfl ?_
  refine dr (ro_eq (ro_fld_ref y31_fl87_0 rfl up_h) (by simp only [pS, Value.cells, Nat.reduceAdd, jnE, beE, Int.toNat_natCast, toNat_suc, toNat_pre] <;> rfl)) rfl ?_
  refine dr (ro_eq (ro_ld_ref y31_ty3 rfl up_h (nle rfl)) (by simp only [pS, Value.cells, Nat.reduceAdd, jnE, beE, Int.toNat_natCast, toNat_suc, toNat_pre] <;> rfl)) rfl ?_
  refine dr (ro_assign (u2 rfl (u4 rfl up_h))) rfl <| dr (ro_assign (up_m rfl up_h)) rfl <| ds_nil <| ae4 (up_m rfl (u2 rfl (u4 rfl (u8 rfl s1_2)))) (up_m rfl (u2 rfl (u4 rfl (u8 rfl s2_2)))) (up_m rfl up_h) up_h ?_; clear s1_2 s2_2; intro e_3 s1_3 s2_3 s6_3 s7_3
  refine then_n <| aw_seq <| at_ <| ar (ro_fld_ptr y31_fl26_1 rfl s2_3) rfl <| ar (ro_eq (ro_ld_ptr y31_ty22 rfl mo0_1 up_h (nle rfl)) (by simp only [pS, Value.cells, Nat.reduceAdd, jnE, beE, Int.toNat_natCast, toNat_suc, toNat_pre] <;> rfl)) rfl ?_
  refine ar (ro_assign up_h) rfl <| ae4 (up_m rfl (u2 rfl s1_3)) (up_m rfl (u2 rfl s6_3)) (up_m rfl (u2 rfl s7_3)) up_h ?_; clear s1_3 s2_3 s6_3 s7_3; intro e_4 s1_4 s6_4 s7_4 s8_4
  refine then_n <| aw_seq <| aw_draw 34 (by kernel_rfl) (by kernel_rfl) (by kernel_rfl) (by kernel_rfl) ?_
  refine dr (ro_move s8_4) rfl <| dr (ro_move (up_m rfl s1_4)) rfl ?_
  (refine dr (ro_add' up_h ev_c ?_) rfl ?_; · (unfold In64; omega))
  refine dr (ro_eq (ro_ix y31_sl22 (u2 rfl up_h) up_h (by omega) (by refine idx_map ?_; first | omega | (simp only [lnS]; omega))) (by simp only [pS, Value.cells, Nat.reduceAdd, jnE, beE, Int.toNat_natCast, toNat_suc, toNat_pre] <;> rfl)) rfl ?_
  refine dr (ro_eq (ro_fld_ref y31_fl70_0 rfl up_h) (by simp only [pS, Value.cells, Nat.reduceAdd, jnE, beE, Int.toNat_natCast, toNat_suc, toNat_pre] <;> rfl)) rfl ?_
  refine dr (ro_eq (ro_ld_ref y31_ty3 rfl up_h (nle rfl)) (by simp only [pS, Value.cells, Nat.reduceAdd, jnE, beE, Int.toNat_natCast, toNat_suc, toNat_pre] <;> rfl)) rfl ?_
  refine dr (ro_move (u2 rfl (u4 rfl s8_4))) rfl <| dr (ro_move (up_m rfl (u2 rfl (u4 rfl s1_4)))) rfl <| dr (ro_eq (ro_ix y31_sl22 (up_m rfl up_h) up_h (by omega) (by first | (refine idx_map ?_; first | omega | (simp only [lnS]; omega)) | (refine idx_mapI ?_; first | omega | (simp only [lnS]; omega)) | (refine idx_mapN ?_; first | omega | (simp only [lnS]; omega)) | rfl)) (by simp only [pS, Value.cells, Nat.reduceAdd, jnE, beE, Int.toNat_natCast, toNat_suc, toNat_pre] <;> rfl)) rfl ?_
  refine dr (ro_eq (ro_fld_ref y31_fl70_0 rfl up_h) (by simp only [pS, Value.cells, Nat.reduceAdd, jnE, beE, Int.toNat_natCast, toNat_suc, toNat_pre] <;> rfl)) rfl ?_
  refine dr (ro_eq (ro_ld_ref y31_ty3 rfl up_h (nle rfl)) (by simp only [pS, Value.cells, Nat.reduceAdd, jnE, beE, Int.toNat_natCast, toNat_suc, toNat_pre] <;> rfl)) rfl ?_
  (refine dr (ro_sub' (up_m rfl (u4 rfl up_h)) up_h ?_) rfl ?_; · (unfold In64; omega))
  refine dr (ro_move (u4 rfl (u8 rfl s6_4))) rfl ?_
  (refine dr (ro_mul' (up_m rfl up_h) up_h ?_) rfl ?_; · (unfold In64; omega))
  refine dr (ro_move (u2 rfl (u4 rfl (u8 rfl s8_4)))) rfl <| dr (ro_move (up_m rfl (u2 rfl (u4 rfl (u8 rfl s1_4))))) rfl <| dr (ro_eq (ro_ix y31_sl22 (up_m rfl up_h) up_h (by omega) (by first | (refine idx_map ?_; first | omega | (simp only [lnS]; omega)) | (refine idx_mapI ?_; first | omega | (simp only [lnS]; omega)) | (refine idx_mapN ?_; first | omega | (simp only [lnS]; omega)) | rfl)) (by simp only [pS, Value.cells, Nat.reduceAdd, jnE, beE, Int.toNat_natCast, toNat_suc, toNat_pre] <;> rfl)) rfl ?_
  refine dr (ro_eq (ro_fld_ref y31_fl70_0 rfl up_h) (by simp only [pS, Value.cells, Nat.reduceAdd, jnE, beE, Int.toNat_natCast, toNat_suc, toNat_pre] <;> rfl)) rfl ?_
  refine dr (ro_eq (ro_ld_ref y31_ty3 rfl up_h (nle rfl)) (by simp only [pS, Value.cells, Nat.reduceAdd, jnE, beE, Int.toNat_natCast, toNat_suc, toNat_pre] <;> rfl)) rfl ?_
  refine dr (ro_move (up_m rfl (u2 rfl (u16 rfl s8_4)))) rfl <| dr (ro_move (u4 rfl (u16 rfl s1_4))) rfl ?_
  (refine dr (ro_sub' up_h ev_c ?_) rfl ?_; · (unfold In64; omega))
  refine dr (ro_eq (ro_ix y31_sl22 (u2 rfl up_h) up_h (by omega) (by first | (refine idx_map ?_; first | omega | (simp only [lnS]; omega)) | (refine idx_mapI ?_; first | omega | (simp only [lnS]; omega)) | (refine idx_mapN ?_; first | omega | (simp only [lnS]; omega)) | rfl)) (by simp only [pS, Value.cells, Nat.reduceAdd, jnE, beE, Int.toNat_natCast, toNat_suc, toNat_pre] <;> rfl)) rfl ?_
  refine dr (ro_eq (ro_fld_ref y31_fl70_0 rfl up_h) (by simp only [pS, Value.cells, Nat.reduceAdd, jnE, beE, Int.toNat_natCast, toNat_suc, toNat_pre] <;> rfl)) rfl ?_
  refine dr (ro_eq (ro_ld_ref y31_ty3 rfl up_h (nle rfl)) (by simp only [pS, Value.cells, Nat.reduceAdd, jnE, beE, Int.toNat_natCast, toNat_suc, toNat_pre] <;> rfl)) rfl ?_
  (refine dr (ro_sub' (u2 rfl (u4 rfl up_h)) up_h ?_) rfl ?_; · (unfold In64; omega))
  refine dr (ro_move (u2 rfl (u8 rfl (u16 rfl s7_4)))) rfl ?_
  (refine dr (ro_mul' (up_m rfl up_h) up_h ?_) rfl ?_; · (unfold In64; omega))
  (refine dr (ro_sub' (u2 rfl (u4 rfl (u8 rfl up_h))) up_h ?_) rfl ?_; · (unfold In64; omega))
  refine dr (ro_move (up_m rfl (u4 rfl (u8 rfl (u16 rfl s6_4))))) rfl <| dr (ro_move (u2 rfl (u4 rfl (u8 rfl (u16 rfl s7_4))))) rfl ?_
  (refine dr (ro_mul' (up_m rfl up_h) up_h ?_) rfl ?_; · (unfold In64; omega))
  refine dr (ro_assign (up_m rfl (u2 rfl up_h))) rfl <| dr (ro_assign (up_m rfl up_h)) rfl <| ds_nil <| ae2 (up_m rfl up_h) up_h ?_; clear s1_4 s6_4 s7_4 s8_4; intro e_5 s4_5 s5_5
  refine then_n <| aw_ret <| ret2 (.inr rfl) (by kernel_rfl) (resV_tmp s4_5) (resV_tmp s5_5) (.ro _ rfl) (.ro _ rfl) ?_
  clear s4_5 s5_5 mo0_1 ml_1
  rfl
end Go.Proofs.Ytonjcljnpcmenaa

/- Contracts of chapter 1: the document's limits; the law of limits. No conditions on a program. -/
namespace Go.Proofs.Ytonjcljnpcmenaa
open Go Go.RowKit Go.Proofs
set_option linter.unusedSimpArgs false
set_option linter.unusedVariables false
theorem y55_az145 : (Try.prog.info? 145).bind (·.zero) = some (.agg #[.int .i64 0, .slice none 0 0]) := by kernel_rfl
theorem y55_az87 : (Try.prog.info? 87).bind (·.zero) = some (.agg #[.int .i64 0, .int .i64 0]) := by kernel_rfl
theorem y55_fl26_2 : FldIs Try.prog 26 2 2 false 1 := by unfold FldIs; kernel_rfl
theorem y55_fl87_0 : FldIs Try.prog 87 0 0 false 1 := by unfold FldIs; kernel_rfl
theorem y55_fl87_1 : FldIs Try.prog 87 1 1 false 1 := by unfold FldIs; kernel_rfl
theorem y55_hcf30 : ∀ args w, (callFunc 30 args).run Try.prog w = .ok (.enter 30 args) w := fun _ _ => by kernel_rfl
theorem y55_hcf86 : ∀ args w, (callFunc 86 args).run Try.prog w = .ok (.enter 86 args) w := fun _ _ => by kernel_rfl
theorem y55_hcf87 : ∀ args w, (callFunc 87 args).run Try.prog w = .ok (.enter 87 args) w := fun _ _ => by kernel_rfl
theorem y55_hcf88 : ∀ args w, (callFunc 88 args).run Try.prog w = .ok (.enter 88 args) w := fun _ _ => by kernel_rfl
theorem y55_hcf89 : ∀ args w, (callFunc 89 args).run Try.prog w = .ok (.enter 89 args) w := fun _ _ => by kernel_rfl
theorem y55_hcf90 : ∀ args w, (callFunc 90 args).run Try.prog w = .ok (.enter 90 args) w := fun _ _ => by kernel_rfl
theorem y55_hcf91 : ∀ args w, (callFunc 91 args).run Try.prog w = .ok (.enter 91 args) w := fun _ _ => by kernel_rfl
theorem y55_sl23 : SlIs Try.prog 23 87 2 16 (.agg #[.int .i64 0, .int .i64 0]) := ⟨by kernel_rfl, by kernel_rfl, by kernel_rfl⟩
theorem y55_sl49 : SlIs Try.prog 49 3 1 8 (.int .i64 0) := ⟨by kernel_rfl, by kernel_rfl, by kernel_rfl⟩
theorem y55_sz145 : (Try.prog.info? 145).map (·.size) = some 2 := by kernel_rfl
theorem y55_sz87 : (Try.prog.info? 87).map (·.size) = some 2 := by kernel_rfl
theorem y55_ty145 : TyIs Try.prog 145 true 2 := ⟨by kernel_rfl, by kernel_rfl⟩
theorem y55_ty23 : TyIs Try.prog 23 false 1 := ⟨by kernel_rfl, by kernel_rfl⟩
theorem y55_ty26 : TyIs Try.prog 26 true 4 := ⟨by kernel_rfl, by kernel_rfl⟩
theorem y55_ty3 : TyIs Try.prog 3 false 1 := ⟨by kernel_rfl, by kernel_rfl⟩
theorem y55_ty87 : TyIs Try.prog 87 true 2 := ⟨by kernel_rfl, by kernel_rfl⟩

theorem widInt2 (a : Int) (ha : 0 ≤ a) : FnOk Try.prog 89 [wA a] (fun q => q = .tuple [mA (if a < 1000000000000000000 then a else 0), tbA (decide (a < 1000000000000000000))]) :=
  (widInt_ok a ha).mono fun q h => by
    rw [h]
    by_cases h1 : a < 1000000000000000000
    · rw [if_pos h1, if_pos h1, decide_eq_true h1]
    · rw [if_neg h1, if_neg h1, decide_eq_false h1]
set_option maxRecDepth 100000 in
set_option maxHeartbeats 4000000 in
theorem rSideErr_ok (n : Int) : FnOk Try.prog 25 [mA n] (fun q => q = mA (sidE n)) := by
  refine fnOk_of (fn := Try.f25) 6 (by kernel_rfl) rfl (by kernel_rfl) (Nat.le_of_ble_eq_true rfl) ?_
  intro e_0 m_0 hA hm_0
  have s0_0 : evA e_0 (.tmp 0) = _ := hA 0 _ rfl
  have ml_0 : m_0.length = 0 := by rw [hm_0]; rfl
  clear hA hm_0
  refine aw_seq <| at_ <| ar (ro_assign ev_c) rfl <| ae1 (up_m rfl s0_0) ?_; clear s0_0; intro e_1 s0_1
  refine then_n <| aw_seq <| aw_seq <| at_ <| ar (ro_move s0_1) rfl <| ar (ro_call (evL_cons up_h (evL_cons ev_c (evL_cons ev_c evL_nil))) rfl (bWithin_ok _ _ _) y55_hcf30) rfl <| ar (ro_not up_h) rfl <| ae1 up_h ?_; clear s0_1; intro e_2 s5_2
  refine then_n <| aw_case s5_2 (fun hq_3 => ?_) (fun hq_3 => ?_)
  ·replace hq_3 := bt' hq_3
   refine aw_seq <| at_ <| ar (ro_assign ev_c) rfl <| ae1 up_h ?_; clear s5_2; intro e_4 s2_4
   refine then_n <| aw_ret <| then_r <| ret1 (.inr rfl) (by kernel_rfl) (resV_tmp s2_4) (.ro _ rfl) ?_
   clear s2_4  ml_0
   (unfold sidE; simp_all [unlessE])
  replace hq_3 := bf' hq_3
  refine aw_skip <| then_n <| aw_seq <| at_ <| ar (ro_assign ev_c) rfl <| ae1 up_h ?_; clear s5_2; intro e_5 s2_5
  refine then_n <| aw_ret <| ret1 (.inr rfl) (by kernel_rfl) (resV_tmp s2_5) (.ro _ rfl) ?_
  clear s2_5  ml_0
  (unfold sidE; simp_all [unlessE])
set_option maxRecDepth 100000 in
set_option maxHeartbeats 4000000 in
theorem bIntsY_ok (a b : List Int) (ha : a.length ≤ 1000000000) (hb : b.length ≤ 1000000000) : FnOk Try.prog 26 [.row 1 (a.map iE), .row 1 (b.map iE)] (fun q => q = tbA (decide (a = b))) := by
  refine fnOk_of (fn := Try.f26) 26 (by kernel_rfl) rfl (by kernel_rfl) (Nat.le_of_ble_eq_true rfl) ?_
  intro e_0 m_0 hA hm_0
  have s0_0 : evA e_0 (.tmp 0) = _ := hA 0 _ rfl
  have s1_0 : evA e_0 (.tmp 1) = _ := hA 1 _ rfl
  have ml_0 : m_0.length = 0 := by rw [hm_0]; rfl
  clear hA hm_0
  refine aw_seq <| at_ <| ar (ro_assign ev_c) rfl <| ae2 (up_m rfl s0_0) (up_m rfl s1_0) ?_; clear s0_0 s1_0; intro e_1 s0_1 s1_1
  refine then_n <| aw_seq <| aw_seq <| at_ <| ar (ro_move s0_1) rfl <| ar (ro_eq (ro_len_row up_h rfl y55_sl49.1) (by simp only [lnS] <;> rfl)) rfl ?_
  refine ar (ro_move (u2 rfl s1_1)) rfl <| ar (ro_eq (ro_len_row up_h rfl y55_sl49.1) (by simp only [lnS] <;> rfl)) rfl ?_
  refine ar (ro_neq (u2 rfl up_h) up_h) rfl <| ae3 (up_m rfl (u4 rfl s0_1)) (up_m rfl (u4 rfl s1_1)) up_h ?_; clear s0_1 s1_1; intro e_2 s0_2 s1_2 s10_2
  refine then_n <| aw_case s10_2 (fun hq_3 => ?_) (fun hq_3 => ?_)
  ·replace hq_3 := bnt hq_3
   refine aw_seq <| at_ <| ar (ro_assign ev_c) rfl <| ae1 up_h ?_; clear s0_2 s10_2 s1_2; intro e_4 s4_4
   refine then_n <| aw_ret <| then_r <| ret1 (.inr rfl) (by kernel_rfl) (resV_tmp s4_4) (.ro _ rfl) ?_
   clear s4_4  ml_0
   (have hne : ¬ a = b := (fun hc => absurd (congrArg List.length hc) (by omega)); rw [decide_eq_false hne])
  replace hq_3 := bnf hq_3
  (have hl : a.length = b.length := (by omega))
  refine aw_skip <| then_n <| aw_seq <| aw_seq <| at_ <| ar (ro_assign ev_c) rfl <| ae3 (up_m rfl s0_2) (up_m rfl s1_2) up_h ?_; clear s0_2 s10_2 s1_2; intro e_5 s0_5 s1_5 s5_5
  refine then_n <| aw_block <| aw_loop (S := Int) (fun i e mem => (evA e (.tmp 5) = .v (.int .i64 i)) ∧ (evA e (.tmp 0) = evA e_5 (.tmp 0)) ∧ (evA e (.tmp 1) = evA e_5 (.tmp 1)) ∧ (mem.length = 0) ∧ ((0 ≤ i ∧ i ≤ a.length ∧ a.length = b.length ∧ ∀ j : Nat, j < i → a.getD j default = b.getD j default))) (fun i => (a.length - i).toNat) _ ⟨s5_5, rfl, rfl, ml_0, ?_⟩ ?_
  · (exact ⟨by omega, by omega, hl, fun j hj => by omega⟩)
  · rintro i e_6 m_6 ⟨s5_6, k0_6, k1_6, ml_6, hinv⟩
    have s0_6 := k0_6.trans s0_5
    have s1_6 := k1_6.trans s1_5
    (obtain ⟨p1, p2, p3, p4⟩ := hinv)
    refine aw_seq <| aw_seq <| at_ <| ar (ro_move s5_6) rfl <| ar (ro_move (up_m rfl s0_6)) rfl <| ar (ro_eq (ro_len_row up_h rfl y55_sl49.1) (by simp only [lnS] <;> rfl)) rfl ?_
    refine ar (ro_lss (u2 rfl up_h) up_h) rfl <| ae4 (u4 rfl s0_6) (u4 rfl s1_6) (u4 rfl s5_6) up_h ?_; clear s0_6 s1_6 s5_6; intro e_7 s0_7 s1_7 s5_7 s14_7
    refine then_n <| aw_case s14_7 (fun hq_8 => ?_) (fun hq_8 => ?_)
    ·replace hq_8 := bt hq_8
     refine aw_skip <| then_n <| aw_seq <| aw_block <| aw_seq <| aw_draw 9 (by kernel_rfl) (by kernel_rfl) (by kernel_rfl) (by kernel_rfl) ?_
     refine dr (ro_move s0_7) rfl <| dr (ro_move (up_m rfl s5_7)) rfl <| dr (ro_eq (ro_ix y55_sl49 (up_m rfl up_h) up_h (by omega) (by first | (refine idx_map ?_; first | omega | (simp only [lnS]; omega)) | (refine idx_mapI ?_; first | omega | (simp only [lnS]; omega)) | (refine idx_mapN ?_; first | omega | (simp only [lnS]; omega)) | rfl)) (by simp only [pS, Value.cells, Nat.reduceAdd, iE] <;> rfl)) rfl ?_
     refine dr (ro_eq (ro_ld_ref y55_ty3 rfl up_h (nle rfl)) (by simp only [pS, Value.cells, Nat.reduceAdd, iE] <;> rfl)) rfl ?_
     refine dr (ro_move (u4 rfl s1_7)) rfl <| dr (ro_move (up_m rfl (u4 rfl s5_7))) rfl <| dr (ro_eq (ro_ix y55_sl49 (up_m rfl up_h) up_h (by omega) (by first | (refine idx_map ?_; first | omega | (simp only [lnS]; omega)) | (refine idx_mapI ?_; first | omega | (simp only [lnS]; omega)) | (refine idx_mapN ?_; first | omega | (simp only [lnS]; omega)) | rfl)) (by simp only [pS, Value.cells, Nat.reduceAdd, iE] <;> rfl)) rfl ?_
     refine dr (ro_eq (ro_ld_ref y55_ty3 rfl up_h (nle rfl)) (by simp only [pS, Value.cells, Nat.reduceAdd, iE] <;> rfl)) rfl ?_
     refine dr (ro_neq (u4 rfl up_h) up_h) rfl <| ds_nil <| ae4 (up_m rfl (u8 rfl s0_7)) (up_m rfl (u8 rfl s1_7)) (up_m rfl (u8 rfl s5_7)) up_h ?_; clear s0_7 s14_7 s1_7 s5_7; intro e_9 s0_9 s1_9 s5_9 s25_9
     refine then_n <| aw_case s25_9 (fun hq_10 => ?_) (fun hq_10 => ?_)
     ·replace hq_10 := bnt hq_10
      refine aw_seq <| at_ <| ar (ro_assign ev_c) rfl <| ae1 up_h ?_; clear s0_9 s1_9 s25_9 s5_9; intro e_11 s4_11
      refine then_n <| aw_ret <| block_r <| then_r <| then_r <| block_r <| then_r <| ret1 (.inr rfl) (by kernel_rfl) (resV_tmp s4_11) (.ro _ rfl) ?_
      clear s4_11  ml_6
      (have hne : ¬ a = b := (fun hc => absurd (congrArg (fun l => l.getD i.toNat default) hc) (by assumption)); rw [decide_eq_false hne])
     replace hq_10 := bnf hq_10
     refine aw_skip <| block_n <| then_n <| at_ <| ar (ro_move s5_9) rfl ?_
     (refine ar (ro_add' up_h ev_c ?_) rfl ?_; · (unfold In64; omega))
     refine ar (ro_assign up_h) rfl <| ae3 (up_m rfl (u2 rfl s0_9)) (up_m rfl (u2 rfl s1_9)) up_h ?_; clear s0_9 s1_9 s25_9 s5_9; intro e_12 s0_12 s1_12 s5_12
     refine then_n <| ⟨_, ⟨s5_12, (s0_12.trans s0_5.symm), (s1_12.trans s1_5.symm), ml_6, ?_⟩, ?_⟩
     · (refine ⟨by omega, by omega, p3, fun q hq => ?_⟩; by_cases hj : (q : Int) = i; (rw [show q = i.toNat by omega]; omega); exact p4 q (by omega))
     · ((try dsimp only); omega)
    replace hq_8 := bf hq_8
    refine aw_exit <| then_x <| then_x <| block_hit <| then_n <| aw_seq <| at_ <| ar (ro_assign ev_c) rfl <| ae1 up_h ?_; clear s0_7 s14_7 s1_7 s5_7; intro e_13 s4_13
    refine then_n <| aw_ret <| ret1 (.inr rfl) (by kernel_rfl) (resV_tmp s4_13) (.ro _ rfl) ?_
    clear s4_13  ml_6
    (rw [decide_eq_true (list_same p3 fun j hj => p4 j (by omega))])
theorem sgn_mulc {n c : Int} (h : n ≠ 0) : (n < 0 → -(9810 * c) = sgnV n * c * 9810) ∧ (¬ n < 0 → 9810 * c = sgnV n * c * 9810) := by
  constructor
  · intro h1; rw [sgn_lt h1]; omega
  · intro h1; rw [sgn_pos (by omega)]; omega
set_option maxRecDepth 100000 in
set_option maxHeartbeats 4000000 in
theorem rLimitAt_ok (l : Lin) (h : Rgt l) (sd : Int) (hs : 0 ≤ sd ∧ sd ≤ 5000) (j : Nat) (hj : 1 ≤ j ∧ j + 2 ≤ l.js.length) : FnOk Try.prog 29 [lnA l, mA sd, mA j] (fun q => q = mA (limV l sd j)) := by
  refine fnOk_of (fn := Try.f29) 80 (by kernel_rfl) rfl (by kernel_rfl) (Nat.le_of_ble_eq_true rfl) ?_
  intro e_0 m_0 hA hm_0
  have s0_0 : evA e_0 (.tmp 0) = _ := hA 0 _ rfl
  have s1_0 : evA e_0 (.tmp 1) = _ := hA 1 _ rfl
  have s2_0 : evA e_0 (.tmp 2) = _ := hA 2 _ rfl
  have ml_0 : m_0.length = 0 := by rw [hm_0]; rfl
  clear hA hm_0
  have hn1 := h.n1; have hn0 := h.n0; have hjs := h.js; have b1 := h.bea (j - 1) (by omega); have b2 := h.bea j (by omega); obtain ⟨e1, e2, e3⟩ := ben_bd h hj; obtain ⟨e4, e5⟩ := hel_bd h hj hs; unfold helV at e5
  refine aw_seq <| at_ <| al_stm (st_box s0_0 rfl ml_0) trivial rfl (fun m_1 hm_1 => ?_)
  have mo0_1 := m_push hm_1 ml_0
  have ml_1 := m_push_l hm_1 ml_0
  have ml_1 : _ = 1 := ml_1
  clear hm_1
  refine ar (ro_assign ev_c) rfl <| ae3 (u2 rfl s1_0) (u2 rfl s2_0) (up_m rfl up_h) ?_; clear s0_0 s1_0 s2_0; intro e_2 s1_2 s2_2 s3_2
  refine then_n <| aw_seq <| at_ <| ar (ro_eq (ro_ld_ptr y55_ty26 rfl mo0_1 s3_2 (nle rfl)) (by simp only [pS, Value.cells, Nat.reduceAdd, beE, Int.toNat_natCast, toNat_suc, toNat_pre] <;> rfl)) rfl ?_
  refine ar (ro_move (up_m rfl s2_2)) rfl <| ar (ro_call (evL_cons (up_m rfl up_h) (evL_cons up_h evL_nil)) rfl (slopes_ok l h j hj) y55_hcf86) rfl <| ar (ro_move up_h) rfl <| ar (ro_extract up_h rfl) rfl <| ar (ro_extract (up_m rfl up_h) rfl) rfl <| ar (ro_assign (up_m rfl up_h)) rfl <| ar (ro_assign (up_m rfl up_h)) rfl <| ae5 (u8 rfl s1_2) (u8 rfl s2_2) (u8 rfl s3_2) (up_m rfl up_h) up_h ?_; clear s1_2 s2_2 s3_2; intro e_3 s1_3 s2_3 s3_3 s7_3 s8_3
  refine then_n <| aw_seq <| aw_seq <| at_ <| ar (ro_move s7_3) rfl <| ar (ro_eql up_h ev_c) rfl ?_
  refine ae6 (u2 rfl s1_3) (u2 rfl s2_3) (u2 rfl s3_3) (u2 rfl s7_3) (u2 rfl s8_3) up_h ?_; clear s1_3 s2_3 s3_3 s7_3 s8_3; intro e_4 s1_4 s2_4 s3_4 s7_4 s8_4 s23_4
  refine then_n <| aw_case s23_4 (fun hq_5 => ?_) (fun hq_5 => ?_)
  ·replace hq_5 := bt hq_5
   refine aw_seq <| at_ <| ar (ro_assign ev_c) rfl <| ae1 up_h ?_; clear s1_4 s23_4 s2_4 s3_4 s7_4 s8_4; intro e_6 s6_6
   refine then_n <| aw_ret <| then_r <| ret1 (.inr rfl) (by kernel_rfl) (resV_tmp s6_6) (.ro _ rfl) ?_
   clear s6_6 mo0_1 ml_1
   (rw [limV, if_pos (by assumption)])
  replace hq_5 := bf hq_5
  (have hb0 : benN l j ≠ 0 := (by assumption); have sm := sgn_mulc (c := (l.bs.getD (j - 1) default).cant + (l.bs.getD j default).cant) hb0)
  refine aw_skip <| then_n <| aw_seq <| aw_drawK 14 2 ml_1 (by kernel_rfl) (by kernel_rfl) (by kernel_rfl) (by kernel_rfl) (fun m_7 hm_7 => ?_)
  have mo0_7 := m_room_o hm_7 mo0_1
  have mo1_7 : m_7[1]? = _ := m_room_g hm_7 ml_1 0 rfl rfl
  have mo2_7 : m_7[2]? = _ := m_room_g hm_7 ml_1 1 rfl rfl
  have ml_7 : _ = 3 := m_room_l (K := 2) hm_7 ml_1
  clear hm_7 mo0_1 ml_1
  refine dh_ro (fun M_ hM_ => (ro_fld_ptr y55_fl26_2 rfl s3_4)) trivial ?_
  refine dh_ld (0) (fun M_ hM_ => (ro_eq (ro_ld_ptr y55_ty23 rfl (agr hM_ mo0_7 (by simp)) up_h (nle rfl)) (by simp only [pS, Value.cells, Nat.reduceAdd, beE, Int.toNat_natCast, toNat_suc, toNat_pre] <;> rfl))) trivial trivial ?_
  refine dh_ro (fun M_ hM_ => (ro_move (u2 rfl s2_4))) trivial ?_
  (refine dh_ro (fun M_ hM_ => (ro_sub' up_h ev_c ?_)) trivial ?_; · (unfold In64; omega))
  refine dh_ro (fun M_ hM_ => (ro_eq (ro_ix y55_sl23 (u2 rfl up_h) up_h (by omega) (by first | (refine idx_map ?_; first | omega | (simp only [lnS]; omega)) | (refine idx_mapI ?_; first | omega | (simp only [lnS]; omega)) | (refine idx_mapN ?_; first | omega | (simp only [lnS]; omega)) | rfl)) (by simp only [pS, Value.cells, Nat.reduceAdd, beE, Int.toNat_natCast, toNat_suc, toNat_pre] <;> rfl))) trivial ?_
  refine dh_ro (fun M_ hM_ => (ro_eq (ro_ld_ref y55_ty87 rfl up_h (nle rfl)) (by simp only [pS, Value.cells, Nat.reduceAdd, beE, Int.toNat_natCast, toNat_suc, toNat_pre] <;> rfl))) trivial ?_
  refine dh_ro (fun M_ hM_ => (ro_fld_ptr y55_fl26_2 rfl (u2 rfl (u4 rfl s3_4)))) trivial ?_
  refine dh_ld (0) (fun M_ hM_ => (ro_eq (ro_ld_ptr y55_ty23 rfl (agr hM_ mo0_7 (by simp)) up_h (nle rfl)) (by simp only [pS, Value.cells, Nat.reduceAdd, beE, Int.toNat_natCast, toNat_suc, toNat_pre] <;> rfl))) trivial trivial ?_
  refine dh_ro (fun M_ hM_ => (ro_move (u8 rfl s2_4))) trivial ?_
  refine dh_ro (fun M_ hM_ => (ro_eq (ro_ix y55_sl23 (up_m rfl up_h) up_h (by omega) (by first | (refine idx_map ?_; first | omega | (simp only [lnS]; omega)) | (refine idx_mapI ?_; first | omega | (simp only [lnS]; omega)) | (refine idx_mapN ?_; first | omega | (simp only [lnS]; omega)) | rfl)) (by simp only [pS, Value.cells, Nat.reduceAdd, beE, Int.toNat_natCast, toNat_suc, toNat_pre] <;> rfl))) trivial ?_
  refine dh_ro (fun M_ hM_ => (ro_eq (ro_ld_ref y55_ty87 rfl up_h (nle rfl)) (by simp only [pS, Value.cells, Nat.reduceAdd, beE, Int.toNat_natCast, toNat_suc, toNat_pre] <;> rfl))) trivial ?_
  refine dh_nw (1) (fun M_ hM_ => (nw_alloc y55_az87 rfl)) trivial mo1_7 rfl trivial ⟨.inl (by simp <;> omega), ⟨.inl (by simp <;> omega), trivial⟩⟩ (fun m_8 hm_8 => ?_)
  have mo1_8 := m_set hm_8 mo1_7
  simp only [pS, Value.cells, Nat.reduceAdd, beE, Int.toNat_natCast, toNat_suc, toNat_pre] at mo1_8
  have mo0_8 := m_set_o hm_8 mo0_7 (by decide)
  have mo2_8 := m_set_o hm_8 mo2_7 (by decide)
  have ml_8 := m_set_l hm_8 ml_7
  clear hm_8 mo0_7 mo1_7 mo2_7
  refine dh_nw (2) (fun M_ hM_ => (nw_alloc y55_az87 rfl)) trivial mo2_8 rfl ⟨.inl (by simp <;> omega), trivial⟩ ⟨.inl (by simp <;> omega), ⟨.inl (by simp <;> omega), ⟨.inl (by simp <;> omega), trivial⟩⟩⟩ (fun m_9 hm_9 => ?_)
  have mo2_9 := m_set hm_9 mo2_8
  simp only [pS, Value.cells, Nat.reduceAdd, beE, Int.toNat_natCast, toNat_suc, toNat_pre] at mo2_9
  have mo1_9 := m_set_o hm_9 mo1_8 (by decide)
  have mo0_9 := m_set_o hm_9 mo0_8 (by decide)
  have ml_9 := m_set_l hm_9 ml_8
  clear hm_9 mo1_8 mo0_8 mo2_8
  refine dh_set (1) (fun M_ hM_ => (se_store (up_m rfl up_h) (up_m rfl (u2 rfl (u4 rfl up_h))) rfl rfl (agr hM_ mo1_9 (by simp)) y55_sz87 rfl (nle rfl))) trivial ⟨.inr (wt_one 13 11 (by kernel_rfl)), ⟨.inl (by simp <;> omega), trivial⟩⟩ ⟨.inl (by simp <;> omega), ⟨.inl (by simp <;> omega), ⟨.inr (wt_one 13 11 (by kernel_rfl)), ⟨.inl (by simp <;> omega), trivial⟩⟩⟩⟩ (fun m_10 hm_10 => ?_)
  have mo1_10 := m_set hm_10 mo1_9
  simp only [pS, Value.cells, Nat.reduceAdd, beE, Int.toNat_natCast, toNat_suc, toNat_pre] at mo1_10
  have mo2_10 := m_set_o hm_10 mo2_9 (by decide)
  have mo0_10 := m_set_o hm_10 mo0_9 (by decide)
  have ml_10 := m_set_l hm_10 ml_9
  clear hm_10 mo2_9 mo1_9 mo0_9
  refine dh_nil rfl ?_
  refine al_stm (st_store (up_n up_h) (up_n (u2 rfl up_h)) rfl rfl mo2_10 y55_sz87 rfl (nle rfl)) trivial rfl (fun m_11 hm_11 => ?_)
  have mo2_11 := m_set hm_11 mo2_10
  simp only [pS, Value.cells, Nat.reduceAdd, beE, Int.toNat_natCast, toNat_suc, toNat_pre] at mo2_11
  have mo1_11 := m_set_o hm_11 mo1_10 (by decide)
  have mo0_11 := m_set_o hm_11 mo0_10 (by decide)
  have ml_11 := m_set_l hm_11 ml_10
  clear hm_11 mo1_10 mo2_10 mo0_10
  refine ae5 (up_n (up_n (up_m rfl (u4 rfl (u8 rfl s1_4))))) (up_n (up_n (up_m rfl (u4 rfl (u8 rfl s7_4))))) (up_n (up_n (up_m rfl (u4 rfl (u8 rfl s8_4))))) (up_n (up_n (up_m rfl up_h))) (up_n (up_n up_h)) ?_; clear s1_4 s23_4 s2_4 s3_4 s7_4 s8_4; intro e_12 s1_12 s7_12 s8_12 s9_12 s10_12
  refine then_n <| aw_seq <| at_ <| ar (ro_fld_ptr y55_fl87_1 rfl s9_12) rfl <| ar (ro_eq (ro_ld_ptr y55_ty3 rfl mo1_11 up_h (nle rfl)) (by simp only [pS, Value.cells, Nat.reduceAdd, beE, Int.toNat_natCast, toNat_suc, toNat_pre] <;> rfl)) rfl ?_
  refine ar (ro_fld_ptr y55_fl87_1 rfl (u2 rfl s10_12)) rfl <| ar (ro_eq (ro_ld_ptr y55_ty3 rfl mo2_11 up_h (nle rfl)) (by simp only [pS, Value.cells, Nat.reduceAdd, beE, Int.toNat_natCast, toNat_suc, toNat_pre] <;> rfl)) rfl ?_
  (refine ar (ro_add' (u2 rfl up_h) up_h ?_) rfl ?_; · (unfold In64; omega))
  (refine ar (ro_mul' ev_c up_h ?_) rfl ?_; · (unfold In64; omega))
  refine ar (ro_assign up_h) rfl <| ae6 (up_m rfl (u2 rfl (u4 rfl s1_12))) (up_m rfl (u2 rfl (u4 rfl s7_12))) (up_m rfl (u2 rfl (u4 rfl s8_12))) (up_m rfl (u2 rfl (u4 rfl s9_12))) (up_m rfl (u2 rfl (u4 rfl s10_12))) up_h ?_; clear s10_12 s1_12 s7_12 s8_12 s9_12; intro e_13 s1_13 s7_13 s8_13 s9_13 s10_13 s11_13
  refine then_n <| aw_seq <| aw_cut (fun e mem => (evA e (.tmp 11) = .v (.int .i64 (sgnV (benN l j) * ((l.bs.getD (j - 1) default).cant + (l.bs.getD j default).cant) * 9810))) ∧ (evA e (.tmp 1) = evA e_13 (.tmp 1)) ∧ (evA e (.tmp 7) = evA e_13 (.tmp 7)) ∧ (evA e (.tmp 8) = evA e_13 (.tmp 8)) ∧ (evA e (.tmp 9) = evA e_13 (.tmp 9)) ∧ (evA e (.tmp 10) = evA e_13 (.tmp 10)) ∧ m_11 = mem) ?_ ?_
  ·
    refine aw_seq <| at_ <| ar (ro_move s7_13) rfl <| ar (ro_lss up_h ev_c) rfl <| ae7 (u2 rfl s1_13) (u2 rfl s7_13) (u2 rfl s8_13) (u2 rfl s9_13) (u2 rfl s10_13) (u2 rfl s11_13) up_h ?_; intro e_15 s1_15 s7_15 s8_15 s9_15 s10_15 s11_15 s42_15
    refine then_n <| aw_case s42_15 (fun hq_16 => ?_) (fun hq_16 => ?_)
    ·replace hq_16 := bt hq_16
     refine at_ <| ar (ro_move s11_15) rfl ?_
     (refine ar (ro_neg' up_h ?_) rfl ?_; · (unfold In64; omega))
     refine ar (ro_assign up_h) rfl <| ae6 (up_m rfl (u2 rfl s1_15)) (up_m rfl (u2 rfl s7_15)) (up_m rfl (u2 rfl s8_15)) (up_m rfl (u2 rfl s9_15)) (up_m rfl (u2 rfl s10_15)) up_h ?_; intro e_17 s1_17 s7_17 s8_17 s9_17 s10_17 s11_17
     refine then_n ⟨(s11_17).trans (by (refine congrArg mA ?_; first | exact sm.1 (by assumption) | exact sm.2 (by assumption))), (s1_17).trans (s1_13).symm, (s7_17).trans (s7_13).symm, (s8_17).trans (s8_13).symm, (s9_17).trans (s9_13).symm, (s10_17).trans (s10_13).symm, rfl⟩
    replace hq_16 := bf hq_16
    refine aw_skip <| then_n ⟨(s11_15).trans (by (refine congrArg mA ?_; first | exact sm.1 (by assumption) | exact sm.2 (by assumption))), (s1_15).trans (s1_13).symm, (s7_15).trans (s7_13).symm, (s8_15).trans (s8_13).symm, (s9_15).trans (s9_13).symm, (s10_15).trans (s10_13).symm, rfl⟩
  · rintro e_14 _ ⟨s11_14, k1_14, k7_14, k8_14, k9_14, k10_14, rfl⟩
    have s1_14 := k1_14.trans s1_13
    have s7_14 := k7_14.trans s7_13
    have s8_14 := k8_14.trans s8_13
    have s9_14 := k9_14.trans s9_13
    have s10_14 := k10_14.trans s10_13
    refine aw_seq <| at_ <| ar (ro_move s1_14) rfl ?_
    (refine ar (ro_mul' ev_c up_h ?_) rfl ?_; · (unfold In64; omega))
    refine ar (ro_move (u2 rfl s11_14)) rfl ?_
    (refine ar (ro_add' (up_m rfl up_h) up_h ?_) rfl ?_; · (unfold In64; omega))
    refine ar (ro_assign up_h) rfl <| ae5 (up_m rfl (u4 rfl s7_14)) (up_m rfl (u4 rfl s8_14)) (up_m rfl (u4 rfl s9_14)) (up_m rfl (u4 rfl s10_14)) up_h ?_; clear s10_14 s11_14 s1_14 s7_14 s8_14 s9_14; intro e_18 s7_18 s8_18 s9_18 s10_18 s12_18
    refine then_n <| aw_seq <| aw_seq <| at_ <| ar (ro_move s12_18) rfl <| ar (ro_lss up_h ev_c) rfl <| ae6 (u2 rfl s7_18) (u2 rfl s8_18) (u2 rfl s9_18) (u2 rfl s10_18) (u2 rfl s12_18) up_h ?_; clear s10_18 s12_18 s7_18 s8_18 s9_18; intro e_19 s7_19 s8_19 s9_19 s10_19 s12_19 s50_19
    refine then_n <| aw_case s50_19 (fun hq_20 => ?_) (fun hq_20 => ?_)
    ·replace hq_20 := bt hq_20
     refine aw_seq <| at_ <| ar (ro_assign ev_c) rfl <| ae1 up_h ?_; clear s10_19 s12_19 s50_19 s7_19 s8_19 s9_19; intro e_21 s6_21
     refine then_n <| aw_ret <| then_r <| ret1 (.inr rfl) (by kernel_rfl) (resV_tmp s6_21) (.ro _ rfl) ?_
     clear s6_21 mo2_11 mo1_11 mo0_11 ml_11
     (rw [limV, if_neg hb0, if_pos (by unfold helV; omega)])
    replace hq_20 := bf hq_20
    (have hh : 0 ≤ (2000 * sd + sgnV (benN l j) * ((l.bs.getD (j - 1) default).cant + (l.bs.getD j default).cant) * 9810) := (by omega); have l1 : (digN ((2000 * sd + sgnV (benN l j) * ((l.bs.getD (j - 1) default).cant + (l.bs.getD j default).cant) * 9810)).natAbs).length ≤ 1 := digN_len (by omega); have l2 : (digN (benD l j).natAbs).length ≤ 1 := digN_len (by omega); have l3 : (digN (((l.bs.getD (j - 1) default).len + (l.bs.getD j default).len)).natAbs).length ≤ 1 := digN_len (by omega); have l4 : (digN (benD l j * ((l.bs.getD (j - 1) default).len + (l.bs.getD j default).len)).natAbs).length ≤ 2 := (by rw [Int.natAbs_mul]; exact digN_mul_len l2 l3); have l5 : (digN ((2000 * sd + sgnV (benN l j) * ((l.bs.getD (j - 1) default).cant + (l.bs.getD j default).cant) * 9810) * (benD l j * ((l.bs.getD (j - 1) default).len + (l.bs.getD j default).len))).natAbs).length ≤ 3 := (by rw [Int.natAbs_mul]; exact digN_mul_len l1 l4); have h0 : 0 ≤ (2000 * sd + sgnV (benN l j) * ((l.bs.getD (j - 1) default).cant + (l.bs.getD j default).cant) * 9810) * (benD l j * ((l.bs.getD (j - 1) default).len + (l.bs.getD j default).len)) := Int.mul_nonneg hh (Int.mul_nonneg (by omega) (by omega)); have l6 : (digN (4000 * ((benN l j).natAbs : Int)).natAbs).length ≤ 2 := digN_len (by omega); have wf := widFloor_ok _ (4000 * ((benN l j).natAbs : Int)) h0 (by omega) (by omega) (by omega); have wi := widInt2 _ (Int.ediv_nonneg h0 (show 0 ≤ 4000 * ((benN l j).natAbs : Int) by omega)); have hl1 : limV l sd j = min ((2000 * sd + sgnV (benN l j) * ((l.bs.getD (j - 1) default).cant + (l.bs.getD j default).cant) * 9810) * (benD l j * ((l.bs.getD (j - 1) default).len + (l.bs.getD j default).len)) / (4000 * ((benN l j).natAbs : Int))) 20000000000 := (by unfold limV limU helV; rw [if_neg hb0, if_neg (by omega)]; rw [show (2 : Int) * 2000 = 4000 by decide, show max (benN l j) (-benN l j) = ((benN l j).natAbs : Int) by omega, Int.mul_comm (benD l j), ← Int.mul_assoc]))
    refine aw_skip <| then_n <| aw_seq <| aw_drawK 13 1 ml_11 (by kernel_rfl) (by kernel_rfl) (by kernel_rfl) (by kernel_rfl) (fun m_22 hm_22 => ?_)
    have mo2_22 := m_room_o hm_22 mo2_11
    have mo1_22 := m_room_o hm_22 mo1_11
    have mo0_22 := m_room_o hm_22 mo0_11
    have mo3_22 : m_22[3]? = _ := m_room_g hm_22 ml_11 0 rfl rfl
    have ml_22 : _ = 4 := m_room_l (K := 1) hm_22 ml_11
    clear hm_22 mo2_11 mo1_11 mo0_11 ml_11
    refine dh_ro (fun M_ hM_ => (ro_move s12_19)) trivial ?_
    refine dh_ro (fun M_ hM_ => (ro_call (evL_cons up_h evL_nil) rfl (widOf_ok _ (by omega)) y55_hcf88)) trivial ?_
    refine dh_ro (fun M_ hM_ => (ro_move (u2 rfl s8_19))) trivial ?_
    refine dh_ro (fun M_ hM_ => (ro_call (evL_cons up_h evL_nil) rfl (widOf_ok _ (by omega)) y55_hcf88)) trivial ?_
    refine dh_ro (fun M_ hM_ => (ro_fld_ptr y55_fl87_0 rfl (u4 rfl s9_19))) trivial ?_
    refine dh_ld (1) (fun M_ hM_ => (ro_eq (ro_ld_ptr y55_ty3 rfl (agr hM_ mo1_22 (by simp)) up_h (nle rfl)) (by simp only [pS, Value.cells, Nat.reduceAdd, beE, Int.toNat_natCast, toNat_suc, toNat_pre] <;> rfl))) trivial trivial ?_
    refine dh_ro (fun M_ hM_ => (ro_fld_ptr y55_fl87_0 rfl (u2 rfl (u4 rfl s10_19)))) trivial ?_
    refine dh_ld (2) (fun M_ hM_ => (ro_eq (ro_ld_ptr y55_ty3 rfl (agr hM_ mo2_22 (by simp)) up_h (nle rfl)) (by simp only [pS, Value.cells, Nat.reduceAdd, beE, Int.toNat_natCast, toNat_suc, toNat_pre] <;> rfl))) trivial trivial ?_
    (refine dh_ro (fun M_ hM_ => (ro_add' (u2 rfl up_h) up_h ?_)) trivial ?_; · (unfold In64; omega))
    refine dh_ro (fun M_ hM_ => (ro_call (evL_cons up_h evL_nil) rfl (widOf_ok _ (by omega)) y55_hcf88)) trivial ?_
    refine dh_ro (fun M_ hM_ => (ro_call (evL_cons (u2 rfl (u4 rfl up_h)) (evL_cons up_h evL_nil)) rfl (widMul_ok _ _ (by omega) (by omega)) y55_hcf87)) trivial ?_
    refine dh_ro (fun M_ hM_ => (ro_call (evL_cons (up_m rfl (u8 rfl up_h)) (evL_cons up_h evL_nil)) rfl (widMul_ok _ _ (by omega) (by omega)) y55_hcf87)) trivial ?_
    refine dh_nw (3) (fun M_ hM_ => (nw_alloc y55_az145 rfl)) trivial mo3_22 rfl trivial ⟨.inl (by simp <;> omega), ⟨.inl (by simp <;> omega), trivial⟩⟩ (fun m_23 hm_23 => ?_)
    have mo3_23 := m_set hm_23 mo3_22
    simp only [pS, Value.cells, Nat.reduceAdd, beE, Int.toNat_natCast, toNat_suc, toNat_pre] at mo3_23
    have mo2_23 := m_set_o hm_23 mo2_22 (by decide)
    have mo1_23 := m_set_o hm_23 mo1_22 (by decide)
    have mo0_23 := m_set_o hm_23 mo0_22 (by decide)
    have ml_23 := m_set_l hm_23 ml_22
    clear hm_23 mo2_22 mo1_22 mo0_22 mo3_22
    refine dh_nil rfl ?_
    refine al_stm (st_store up_h (up_m rfl up_h) rfl rfl mo3_23 y55_sz145 rfl (nle rfl)) trivial rfl (fun m_24 hm_24 => ?_)
    have mo3_24 := m_set hm_24 mo3_23
    simp only [pS, Value.cells, Nat.reduceAdd, beE, Int.toNat_natCast, toNat_suc, toNat_pre] at mo3_24
    have mo2_24 := m_set_o hm_24 mo2_23 (by decide)
    have mo1_24 := m_set_o hm_24 mo1_23 (by decide)
    have mo0_24 := m_set_o hm_24 mo0_23 (by decide)
    have ml_24 := m_set_l hm_24 ml_23
    clear hm_24 mo3_23 mo2_23 mo1_23 mo0_23
    refine ae2 (up_n (up_m rfl (u4 rfl (u8 rfl s7_19)))) (up_n up_h) ?_; clear s10_19 s12_19 s50_19 s7_19 s8_19 s9_19; intro e_25 s7_25 s13_25
    refine then_n <| aw_seq <| aw_draw 12 (by kernel_rfl) (by kernel_rfl) (by kernel_rfl) (by kernel_rfl) ?_
    refine dr (ro_eq (ro_ld_ptr y55_ty145 rfl mo3_24 s13_25 (nle rfl)) (by simp only [pS, Value.cells, Nat.reduceAdd, beE, Int.toNat_natCast, toNat_suc, toNat_pre] <;> rfl)) rfl ?_
    refine dr (ro_move (up_m rfl s7_25)) rfl <| dr (ro_call (evL_cons up_h evL_nil) rfl (size0_ok _ (by omega)) y55_hcf91) rfl ?_
    (refine dr (ro_mul' ev_c up_h ?_) rfl ?_; · (unfold In64; omega))
    refine dr (ro_call (evL_cons up_h evL_nil) rfl (widOf_ok _ (by omega)) y55_hcf88) rfl ?_
    refine dr (ro_call (evL_cons (u4 rfl up_h) (evL_cons up_h evL_nil)) rfl (wf) y55_hcf90) rfl <| dr (ro_call (evL_cons up_h evL_nil) rfl (wi) y55_hcf89) rfl <| dr (ro_move up_h) rfl <| dr (ro_extract up_h rfl) rfl <| dr (ro_extract (up_m rfl up_h) rfl) rfl <| dr (ro_assign (up_m rfl up_h)) rfl <| dr (ro_assign (up_m rfl up_h)) rfl <| ds_nil <| ae2 (up_m rfl up_h) up_h ?_; clear s13_25 s7_25; intro e_26 s14_26 s15_26
    refine then_n <| aw_seq <| aw_seq <| at_ <| ar (ro_move s15_26) rfl <| ar (ro_not up_h) rfl <| ar (ro_move up_h) rfl <| al_case up_h (fun hb_27 hq_27 => ?_) (fun hb_27 hq_27 => ?_)
    ·replace hq_27 := bnt hq_27
     refine al_skip' ⟨_, rfl, .inl hb_27⟩ rfl ?_
     refine al_skip' ⟨_, rfl, .inl (up_m rfl hb_27)⟩ rfl ?_
     refine ar (ro_pickT (u2 rfl hb_27) ev_c) rfl <| ae2 (u2 rfl (u4 rfl s14_26)) up_h ?_; clear hb_27 s14_26 s15_26; intro e_28 s14_28 s78_28
     refine then_n <| aw_true s78_28 <| aw_seq <| at_ <| ar (ro_assign ev_c) rfl <| ae1 up_h ?_; clear s14_28 s78_28; intro e_30 s6_30
     refine then_n <| aw_ret <| then_r <| ret1 (.inr rfl) (by kernel_rfl) (resV_tmp s6_30) (.ro _ rfl) ?_
     clear s6_30 mo3_24 mo2_24 mo1_24 mo0_24 ml_24
     (refine congrArg mA ?_; rw [hl1]; simp_all; omega)
    replace hq_27 := bnf hq_27
    refine al_ro' (ro_move (up_m rfl (u2 rfl s14_26))) ⟨_, rfl, hb_27⟩ rfl ?_
    refine al_ro' (ro_gtr up_h ev_c) ⟨_, rfl, (up_m rfl hb_27)⟩ rfl ?_
    refine ar (ro_pickF (u2 rfl hb_27) up_h) rfl <| ae2 (u2 rfl (u4 rfl s14_26)) up_h ?_; clear hb_27 s14_26 s15_26; intro e_31 s14_31 s78_31
    refine then_n <| aw_case s78_31 (fun hq_32 => ?_) (fun hq_32 => ?_)
    ·replace hq_32 := bt hq_32
     refine aw_seq <| at_ <| ar (ro_assign ev_c) rfl <| ae1 up_h ?_; clear s14_31 s78_31; intro e_33 s6_33
     refine then_n <| aw_ret <| then_r <| ret1 (.inr rfl) (by kernel_rfl) (resV_tmp s6_33) (.ro _ rfl) ?_
     clear s6_33 mo3_24 mo2_24 mo1_24 mo0_24 ml_24
     (refine congrArg mA ?_; rw [hl1]; simp_all; omega)
    replace hq_32 := bf hq_32
    refine aw_skip <| then_n <| aw_seq <| at_ <| ar (ro_move s14_31) rfl <| ar (ro_assign up_h) rfl <| ae1 up_h ?_; clear s14_31 s78_31; intro e_34 s6_34
    refine then_n <| aw_ret <| ret1 (.inr rfl) (by kernel_rfl) (resV_tmp s6_34) (.ro _ rfl) ?_
    clear s6_34 mo3_24 mo2_24 mo1_24 mo0_24 ml_24
    (refine congrArg mA ?_; rw [hl1]; simp_all; omega)
end Go.Proofs.Ytonjcljnpcmenaa

