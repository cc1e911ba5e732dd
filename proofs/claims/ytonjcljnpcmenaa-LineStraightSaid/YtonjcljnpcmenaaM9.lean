/- Texts of this claim, one behind the other: lemmas for the statement. -/
import Derived.Test.YtonjcljnpcmenaaM8
import Derived.Test.YtonjcljnpcmenaaA27
import Derived.Test.YtonjcljnpcmenaaM6
/- Plain: digits compared, taken away, divided. No program in sight. -/
namespace Go.Proofs.Ytonjcljnpcmenaa
open Go Go.RowKit Go.Proofs
set_option linter.unusedSimpArgs false
set_option linter.unusedVariables false

theorem digN_mono {m n : Nat} (h : m ≤ n) : (digN m).length ≤ (digN n).length := by
  have h1 := valD_lt (digN_gd n)
  rw [digN_val] at h1
  have h2 : ((n : Nat) : Int) < ((1000000000 ^ (digN n).length : Nat) : Int) := by rw [Int.natCast_pow]; exact h1
  exact digN_len (Nat.lt_of_le_of_lt h (Int.ofNat_lt.1 h2))
theorem list_same {a b : List Int} (hl : a.length = b.length) (h : ∀ q : Nat, q < a.length → a.getD q default = b.getD q default) : a = b := by
  refine List.ext_getElem hl fun n h1 h2 => ?_
  have := h n h1
  rw [List.getD_eq_getElem?_getD, List.getD_eq_getElem?_getD, List.getElem?_eq_getElem h1, List.getElem?_eq_getElem h2] at this
  exact this
theorem getD_far {ds : List Int} {i : Nat} (h : ds.length ≤ i) : ds.getD i default = 0 := by rw [List.getD_eq_getElem?_getD, List.getElem?_eq_none h]; rfl
theorem valD_takeD {ds : List Int} {k : Nat} : valD (ds.take (k + 1)) = valD (ds.take k) + ds.getD k default * 1000000000 ^ k := by
  by_cases h : k < ds.length
  · exact valD_take h
  · rw [List.take_of_length_le (by omega), List.take_of_length_le (by omega), getD_far (by omega), Int.zero_mul, Int.add_zero]
theorem valD_push {ds : List Int} {i : Nat} (h : ds.length = i) (v : Int) : valD (ds ++ [v]) = valD ds + v * 1000000000 ^ i := by
  rw [valD_app, h, valD, valD, Int.mul_zero, Int.add_zero, Int.mul_comm]
/-- Less digits taken away: what is so far, and what was borrowed. -/
structure SB (a b o : List Int) (i : Nat) (w : Int) : Prop where
  len : o.length = i
  gd : GD o
  w01 : 0 ≤ w ∧ w ≤ 1
  v : valD o = valD (a.take i) - valD (b.take i) + w * 1000000000 ^ i
theorem SB.first (a b : List Int) : SB a b [] 0 0 := ⟨rfl, GD.nil, by omega, by simp [valD]⟩
theorem SB.next {a b o : List Int} {i : Nat} {w x y : Int} (h : SB a b o i w) (ha : GD a) (hb : GD b) (hx : x = a.getD i default - b.getD i default - w + y * 1000000000) (hy : 0 ≤ y ∧ y ≤ 1) (hr : 0 ≤ x ∧ x < 1000000000) : SB a b (o ++ [x]) (i + 1) y := by
  refine ⟨by simp [h.len], h.gd.app (GD.one hr), hy, ?_⟩
  rw [valD_push h.len, h.v, valD_takeD, valD_takeD, Int.pow_succ, hx]
  generalize (1000000000 : Int) ^ i = P
  rw [Int.add_mul, Int.sub_mul, Int.sub_mul, Int.mul_comm P, ← Int.mul_assoc]
  omega
theorem SB.done {m n : Nat} {o : List Int} {w : Int} (h : SB (digN m) (digN n) o (digN m).length w) (hmn : n ≤ m) : (valD o).toNat = m - n := by
  have hv := h.v
  rw [List.take_length, List.take_of_length_le (digN_mono hmn), digN_val, digN_val] at hv
  have h1 := valD_lt h.gd
  rw [h.len] at h1
  have h2 := h.w01
  rcases (show w = 0 ∨ w = 1 by omega) with rfl | rfl <;> omega
/-- Digits added. -/
structure AD (a b o : List Int) (i : Nat) (w : Int) : Prop where
  len : o.length = i
  gd : GD o
  w01 : 0 ≤ w ∧ w ≤ 1
  v : valD o + w * 1000000000 ^ i = valD (a.take i) + valD (b.take i)
theorem AD.first (a b : List Int) : AD a b [] 0 0 := ⟨rfl, GD.nil, by omega, by simp [valD]⟩
theorem AD.next {a b o : List Int} {i : Nat} {w x : Int} (h : AD a b o i w) (ha : GD a) (hb : GD b) (hx : x = a.getD i default + b.getD i default + w) : AD a b (o ++ [x % 1000000000]) (i + 1) (x / 1000000000) := by
  have h1 := ha.at i
  have h2 := hb.at i
  have h3 := h.w01
  refine ⟨by simp [h.len], h.gd.app (GD.one (by omega)), by omega, ?_⟩
  have hv := h.v
  rw [valD_push h.len, valD_takeD, valD_takeD, Int.pow_succ]
  generalize (1000000000 : Int) ^ i = P at *
  have e1 : x / 1000000000 * (P * 1000000000) = (x - x % 1000000000) * P := by
    rw [Int.mul_comm P, ← Int.mul_assoc, show x / 1000000000 * 1000000000 = x - x % 1000000000 by omega]
  rw [e1, hx, Int.sub_mul, Int.add_mul, Int.add_mul]
  omega
theorem AD.done {a b o : List Int} {i : Nat} (h : AD a b o i 0) (ha : a.length ≤ i) (hb : b.length ≤ i) : valD o = valD a + valD b := by
  have hv := h.v
  rw [List.take_of_length_le ha, List.take_of_length_le hb] at hv
  omega
/-- A quotient, digit by digit from the top. -/
structure WF (a : List Int) (b : Int) (q : List Int) (i : Nat) (r : Int) : Prop where
  len : q.length = a.length
  gd : GD q
  r0 : 0 ≤ r ∧ r < b
  v : valD (a.drop i) = valD (q.drop i) * b + r
theorem WF.first {a : List Int} {b : Int} (hb : 0 < b) : WF a b (List.replicate a.length 0) a.length 0 := by
  refine ⟨by simp, GD.rep _, by omega, ?_⟩
  rw [List.drop_of_length_le (by omega), List.drop_of_length_le (by simp)]; simp [valD]
theorem WF.next {a q : List Int} {b r d x : Int} {i : Nat} (h : WF a b q (i + 1) r) (hi : i < a.length) (hd : d = a.getD i default + 1000000000 * r) (hx : 0 ≤ x ∧ x < 1000000000) (hr : 0 ≤ d - b * x ∧ d - b * x < b) : WF a b (q.set i x) i (d - b * x) := by
  have hv := h.v
  have hq : i < q.length := by rw [h.len]; exact hi
  refine ⟨by rw [List.length_set]; exact h.len, h.gd.set _ hx, hr, ?_⟩
  have e2 : (q.set i x).drop i = x :: q.drop (i + 1) := by
    rw [List.drop_eq_getElem_cons (by rw [List.length_set]; exact hq), List.getElem_set_self, List.drop_set_of_lt (by omega)]
  rw [e2, List.drop_eq_getElem_cons hi, valD, valD, hv, Int.add_mul, hd, List.getD_eq_getElem?_getD, List.getElem?_eq_getElem hi, Int.mul_add, Int.mul_assoc, Int.mul_comm b x]
  simp only [Option.getD_some]
  omega
theorem WF.done {a q : List Int} {b r : Int} (h : WF a b q 0 r) : valD q = valD a / b := by
  have hv := h.v
  rw [List.drop_zero, List.drop_zero] at hv
  have := h.r0
  rw [hv, Int.add_comm, Int.add_mul_ediv_right _ _ (by omega), Int.ediv_eq_zero_of_lt this.1 this.2, Int.zero_add]
end Go.Proofs.Ytonjcljnpcmenaa

/- Contracts: wide numbers multiplied, compared, taken away. No conditions on a program. -/
namespace Go.Proofs.Ytonjcljnpcmenaa
open Go Go.RowKit Go.Proofs
set_option linter.unusedSimpArgs false
set_option linter.unusedVariables false
end Go.Proofs.Ytonjcljnpcmenaa

/- Contracts: digits compared, added, taken away. No conditions on a program. -/
namespace Go.Proofs.Ytonjcljnpcmenaa
open Go Go.RowKit Go.Proofs
set_option linter.unusedSimpArgs false
set_option linter.unusedVariables false
theorem digN_big {m i : Nat} (h : i < (digN m).length) : (1000000000 : Int) ^ i ≤ m := by
  refine Int.not_lt.1 fun hc => ?_
  have h2 : ((m : Nat) : Int) < ((1000000000 ^ i : Nat) : Int) := by rw [Int.natCast_pow]; exact hc
  have := digN_len (Int.ofNat_lt.1 h2)
  omega
theorem AD.top {m n : Nat} {o : List Int} {i : Nat} {w : Int} (h : AD (digN m) (digN n) o i w) (hg : i < (digN m).length ∨ i < (digN n).length ∨ 0 < w) : (1000000000 : Int) ^ i ≤ (m : Int) + n := by
  have hp : (0 : Int) < 1000000000 ^ i := Int.pow_pos (by decide)
  by_cases h1 : i < (digN m).length
  · have := digN_big h1; omega
  · by_cases h2 : i < (digN n).length
    · have := digN_big h2; omega
    · have hv := h.v
      rw [List.take_of_length_le (by omega), List.take_of_length_le (by omega), digN_val, digN_val] at hv
      have hw := h.w01
      have hn := valD_nn h.gd
      have : w = 1 := by omega
      subst this
      rw [Int.one_mul] at hv
      omega
end Go.Proofs.Ytonjcljnpcmenaa

/- Contracts: wide numbers added, compared, divided. No conditions on a program. -/
namespace Go.Proofs.Ytonjcljnpcmenaa
open Go Go.RowKit Go.Proofs
set_option linter.unusedSimpArgs false
set_option linter.unusedVariables false
end Go.Proofs.Ytonjcljnpcmenaa

/- Contracts: wide numbers compared, divided. No conditions on a program. -/
namespace Go.Proofs.Ytonjcljnpcmenaa
open Go Go.RowKit Go.Proofs
set_option linter.unusedSimpArgs false
set_option linter.unusedVariables false
end Go.Proofs.Ytonjcljnpcmenaa

/- Contracts of chapter 1: gradients and bends. No conditions on a program. -/
namespace Go.Proofs.Ytonjcljnpcmenaa
open Go Go.RowKit Go.Proofs
set_option linter.unusedSimpArgs false
set_option linter.unusedVariables false
end Go.Proofs.Ytonjcljnpcmenaa

/- Contracts of chapter 1: bends; the law on gradients. No conditions on a program. -/
namespace Go.Proofs.Ytonjcljnpcmenaa
open Go Go.RowKit Go.Proofs
set_option linter.unusedSimpArgs false
set_option linter.unusedVariables false
theorem y31_az81 : (Try.prog.info? 81).bind (·.zero) = some (.agg #[.int .i64 0, .int .i64 0]) := by kernel_rfl
theorem y31_bz81 : (Try.prog.info? 81).bind (·.zero) = some (.agg #[.int .i64 0, .int .i64 0]) := by kernel_rfl
theorem y31_bu81 : Try.prog.underlying 81 = some (.struct (fsOf Try.prog 81)) := by kernel_rfl
theorem y31_bp81 : ∀ w, ((fsOf Try.prog 81).mapM fun f => Prod.mk f.offset <$> sizeOf f.type : Sem (Array (Nat × Nat))).run Try.prog w = .ok (#[(0, 1), (1, 1)]) w := fun _ => by kernel_rfl
theorem y31_fl81_0 : FldIs Try.prog 81 0 0 false 1 := by unfold FldIs; kernel_rfl
theorem y31_fl81_1 : FldIs Try.prog 81 1 1 false 1 := by unfold FldIs; kernel_rfl
theorem y31_hcf104 : ∀ args w, (callFunc 104 args).run Try.prog w = .ok (.enter 104 args) w := fun _ _ => by kernel_rfl
theorem y31_hcf105 : ∀ args w, (callFunc 105 args).run Try.prog w = .ok (.enter 105 args) w := fun _ _ => by kernel_rfl
theorem y31_hcf106 : ∀ args w, (callFunc 106 args).run Try.prog w = .ok (.enter 106 args) w := fun _ _ => by kernel_rfl
theorem y31_hcf76 : ∀ args w, (callFunc 76 args).run Try.prog w = .ok (.enter 76 args) w := fun _ _ => by kernel_rfl
theorem y31_hcf84 : ∀ args w, (callFunc 84 args).run Try.prog w = .ok (.enter 84 args) w := fun _ _ => by kernel_rfl
theorem y31_hcf97 : ∀ args w, (callFunc 97 args).run Try.prog w = .ok (.enter 97 args) w := fun _ _ => by kernel_rfl
theorem y31_sz81 : (Try.prog.info? 81).map (·.size) = some 2 := by kernel_rfl
theorem y31_ty26 : TyIs Try.prog 26 true 4 := ⟨by kernel_rfl, by kernel_rfl⟩
theorem y31_ty3 : TyIs Try.prog 3 false 1 := ⟨by kernel_rfl, by kernel_rfl⟩
theorem y31_ty81 : TyIs Try.prog 81 true 2 := ⟨by kernel_rfl, by kernel_rfl⟩

/-- The bend at a joint. -/
def benX (l : Lin) (j : Nat) : Int := fraN (1000 * benN l j) (benD l j)
def benZ (l : Lin) (j : Nat) : Int := fraD (1000 * benN l j) (benD l j)
def benS (l : Lin) (j : Nat) : Bool := smaB (benX l j) 1000000000 && decide (benZ l j ≤ 1000000000)
set_option maxRecDepth 100000 in
set_option maxHeartbeats 1000000 in
theorem small_ok (n m : Int) (hm : -1000000000 ≤ m ∧ m ≤ 1000000000) : FnOk Try.prog 106 [mA n, mA m] (fun q => q = tbA (smaB n m)) := by
  refine fnOk_of (fn := Try.f106) 10 (by kernel_rfl) rfl (by kernel_rfl) (Nat.le_of_ble_eq_true rfl) ?_
  intro e_0 m_0 hA hm_0
  have s0_0 : evA e_0 (.tmp 0) = _ := hA 0 _ rfl
  have s1_0 : evA e_0 (.tmp 1) = _ := hA 1 _ rfl
  have ml_0 : m_0.length = 0 := by rw [hm_0]; rfl
  clear hA hm_0
  refine aw_seq <| at_ <| ar (ro_assign ev_c) rfl <| ae2 (up_m rfl s0_0) (up_m rfl s1_0) ?_; clear s0_0 s1_0; intro e_1 s0_1 s1_1
  refine then_n <| aw_seq <| at_ <| ar (ro_move s0_1) rfl <| ar (ro_move (up_m rfl s1_1)) rfl ?_
  (refine ar (ro_neg' up_h ?_) rfl ?_; · (unfold In64; omega))
  refine ar (ro_move (up_m rfl (u2 rfl s1_1))) rfl <| ar (ro_call (evL_cons (up_m rfl (u2 rfl up_h)) (evL_cons (up_m rfl up_h) (evL_cons up_h evL_nil))) rfl (yWithin_ok _ _ _) y31_hcf97) rfl <| ar (ro_assign up_h) rfl <| ae1 up_h ?_; clear s0_1 s1_1; intro e_2 s4_2
  refine then_n <| aw_ret <| ret1 (.inr rfl) (by kernel_rfl) (resV_tmp s4_2) (.ro _ rfl) ?_
  clear s4_2  ml_0
  rfl
set_option maxRecDepth 100000 in
set_option maxHeartbeats 4000000 in
theorem bendAt_in (l : Lin) (hl : Sho l) (hg : (linM l).2 = 0) (i : Int) (hm : misE i 1 (l.js.length - 2) = 0) : FnOk Try.prog 47 [lnA l, mA i] (fun q => q = if benS l i.toNat then .tuple [frA (benX l i.toNat) (benZ l i.toNat), mA 0] else .tuple [frA 0 0, mA 8]) := by
  refine fnOk_of (fn := Try.f47) 49 (by kernel_rfl) rfl (by kernel_rfl) (Nat.le_of_ble_eq_true rfl) ?_
  intro e_0 m_0 hA hm_0
  have s0_0 : evA e_0 (.tmp 0) = _ := hA 0 _ rfl
  have s1_0 : evA e_0 (.tmp 1) = _ := hA 1 _ rfl
  have ml_0 : m_0.length = 0 := by rw [hm_0]; rfl
  clear hA hm_0
  have h := rgt_of hg; have hjs := h.js; have hm2 := misE_z.1 hm; have hj : 1 ≤ i.toNat ∧ i.toNat + 2 ≤ l.js.length := (by omega); have gr := bend_ok l h i.toNat hj; rw [show ((i.toNat : Nat) : Int) = i by omega] at gr; obtain ⟨e1, e2, e3⟩ := ben_bd h hj
  refine aw_seq <| at_ <| al_stm (st_box s0_0 rfl ml_0) trivial rfl (fun m_1 hm_1 => ?_)
  have mo0_1 := m_push hm_1 ml_0
  have ml_1 := m_push_l hm_1 ml_0
  have ml_1 : _ = 1 := ml_1
  clear hm_1
  refine al_stm (st_alloc y31_az81 rfl ml_1) trivial rfl (fun m_2 hm_2 => ?_)
  have mo1_2 := m_push hm_2 ml_1
  simp only [pS, Value.cells, Nat.reduceAdd] at mo1_2
  have mo0_2 := m_push_o hm_2 mo0_1
  have ml_2 := m_push_l hm_2 ml_1
  have ml_2 : _ = 2 := ml_2
  clear hm_2 mo0_1
  refine ar (ro_assign ev_c) rfl <| ae3 (up_m rfl (u2 rfl s1_0)) (u2 rfl up_h) (up_m rfl up_h) ?_; clear s0_0 s1_0; intro e_3 s1_3 s2_3 s4_3
  refine then_n <| aw_seq <| at_ <| ar (ro_eq (ro_ld_ptr y31_ty26 rfl mo0_2 s2_3 (nle rfl)) (by simp only [pS, Value.cells, Nat.reduceAdd] <;> rfl)) rfl ?_
  refine ar (ro_call (evL_cons up_h evL_nil) rfl (yOpen_good l hl hg) y31_hcf76) rfl <| ar (ro_move up_h) rfl <| ar (ro_extract up_h rfl) rfl <| ar (ro_extract (up_m rfl up_h) rfl) rfl <| ar (ro_assign (up_m rfl up_h)) rfl <| ar (ro_assign (up_m rfl up_h)) rfl <| ae4 (up_m rfl (u2 rfl (u4 rfl s1_3))) (up_m rfl (u2 rfl (u4 rfl s4_3))) (up_m rfl up_h) up_h ?_; clear s1_3 s2_3 s4_3; intro e_4 s1_4 s4_4 s6_4 s7_4
  refine then_n <| aw_seq <| aw_seq <| at_ <| ar (ro_move s7_4) rfl <| ar (ro_neq up_h ev_c) rfl <| ae5 (u2 rfl s1_4) (u2 rfl s4_4) (u2 rfl s6_4) (u2 rfl s7_4) up_h ?_; clear s1_4 s4_4 s6_4 s7_4; intro e_5 s1_5 s4_5 s6_5 s7_5 s18_5
  refine then_n <| aw_case s18_5 (fun hq_6 => ?_) (fun hq_6 => ?_)
  · cases hq_6
  replace hq_6 := bnf hq_6
  refine aw_skip <| then_n <| aw_seq <| aw_seq <| at_ <| ar (ro_move s6_5) rfl <| ar (ro_move (up_m rfl s1_5)) rfl <| ar (ro_call (evL_cons (up_m rfl up_h) (evL_cons up_h evL_nil)) rfl (yInnerErr_ok l h i) y31_hcf84) rfl <| ar (ro_assign up_h) rfl <| ae4 (u4 rfl s1_5) (u4 rfl s4_5) (u4 rfl s6_5) up_h ?_; clear s18_5 s1_5 s4_5 s6_5 s7_5; intro e_7 s1_7 s4_7 s6_7 s8_7
  refine then_n <| aw_seq <| at_ <| ar (ro_move s8_7) rfl <| ar (ro_neq up_h ev_c) rfl <| ae5 (u2 rfl s1_7) (u2 rfl s4_7) (u2 rfl s6_7) (u2 rfl s8_7) up_h ?_; clear s1_7 s4_7 s6_7 s8_7; intro e_8 s1_8 s4_8 s6_8 s8_8 s25_8
  refine then_n <| aw_case s25_8 (fun hq_9 => ?_) (fun hq_9 => ?_)
  · replace hq_9 := bnt hq_9; exfalso; omega
  replace hq_9 := bnf hq_9
  refine aw_skip <| then_n <| aw_seq <| at_ <| ar (ro_move s6_8) rfl <| ar (ro_move (up_m rfl s1_8)) rfl <| ar (ro_call (evL_cons (up_m rfl up_h) (evL_cons up_h evL_nil)) rfl (gr) y31_hcf104) rfl <| ar (ro_move up_h) rfl <| ar (ro_extract up_h rfl) rfl <| ar (ro_extract (up_m rfl up_h) rfl) rfl <| ar (ro_assign (up_m rfl up_h)) rfl <| ar (ro_assign (up_m rfl up_h)) rfl <| ae3 (u8 rfl s4_8) (up_m rfl up_h) up_h ?_; clear s1_8 s25_8 s4_8 s6_8 s8_8; intro e_10 s4_10 s9_10 s10_10
  refine then_n <| aw_seq <| at_ <| ar (ro_move s9_10) rfl ?_
  (refine ar (ro_mul' ev_c up_h ?_) rfl ?_; · (unfold In64; omega))
  refine ar (ro_move (u2 rfl s10_10)) rfl <| ar (ro_call (evL_cons (up_m rfl up_h) (evL_cons up_h evL_nil)) rfl ((frac_ok (1000 * benN l i.toNat) (benD l i.toNat) (by omega) (by omega)).mono (fun q h => show q = frA (benX l i.toNat) (benZ l i.toNat) from h)) y31_hcf105) rfl ?_
  refine al_stm (st_alloc y31_az81 rfl ml_2) trivial rfl (fun m_11 hm_11 => ?_)
  have mo2_11 := m_push hm_11 ml_2
  simp only [pS, Value.cells, Nat.reduceAdd] at mo2_11
  have mo1_11 := m_push_o hm_11 mo1_2
  have mo0_11 := m_push_o hm_11 mo0_2
  have ml_11 := m_push_l hm_11 ml_2
  have ml_11 : _ = 3 := ml_11
  clear hm_11 mo1_2 mo0_2
  refine al_stm (st_store up_h (up_m rfl up_h) rfl rfl mo2_11 y31_sz81 rfl (nle rfl)) trivial rfl (fun m_12 hm_12 => ?_)
  have mo2_12 := m_set hm_12 mo2_11
  simp only [pS, Value.cells, Nat.reduceAdd] at mo2_12
  have mo1_12 := m_set_o hm_12 mo1_11 (by decide)
  have mo0_12 := m_set_o hm_12 mo0_11 (by decide)
  have ml_12 := m_set_l hm_12 ml_11
  clear hm_12 mo2_11 mo1_11 mo0_11
  refine ae2 (up_n (up_m rfl (u4 rfl s4_10))) (up_n up_h) ?_; clear s10_10 s4_10 s9_10; intro e_13 s4_13 s11_13
  refine then_n <| aw_seq <| aw_seq <| at_ <| ar (ro_fld_ptr y31_fl81_0 rfl s11_13) rfl <| ar (ro_eq (ro_ld_ptr y31_ty3 rfl mo2_12 up_h (nle rfl)) (by simp only [pS, Value.cells, Nat.reduceAdd] <;> rfl)) rfl ?_
  refine ar (ro_call (evL_cons up_h (evL_cons ev_c evL_nil)) rfl (small_ok _ _ (by decide)) y31_hcf106) rfl ?_
  refine ar (ro_not up_h) rfl <| ar (ro_move up_h) rfl <| al_case up_h (fun hb_14 hq_14 => ?_) (fun hb_14 hq_14 => ?_)
  ·replace hq_14 := bt' hq_14
   refine al_skip' ⟨_, rfl, .inl hb_14⟩ rfl ?_
   refine al_skip' ⟨_, rfl, .inl (up_m rfl hb_14)⟩ rfl ?_
   refine al_skip' ⟨_, rfl, .inl (u2 rfl hb_14)⟩ rfl ?_
   refine ar (ro_pickT (up_m rfl (u2 rfl hb_14)) ev_c) rfl <| ae3 (up_m rfl (u8 rfl s4_13)) (up_m rfl (u8 rfl s11_13)) up_h ?_; clear hb_14 s11_13 s4_13; intro e_15 s4_15 s11_15 s46_15
   refine then_n <| aw_true s46_15 <| aw_seq <| at_ <| ar (ro_build evP_nil y31_bz81 y31_bu81 y31_bp81 rfl) rfl ?_
   refine al_stm (st_store (up_m rfl s4_15) up_h rfl rfl mo1_12 y31_sz81 rfl (nle rfl)) trivial rfl (fun m_17 hm_17 => ?_)
   have mo1_17 := m_set hm_17 mo1_12
   simp only [pS, Value.cells, Nat.reduceAdd] at mo1_17
   have mo2_17 := m_set_o hm_17 mo2_12 (by decide)
   have mo0_17 := m_set_o hm_17 mo0_12 (by decide)
   have ml_17 := m_set_l hm_17 ml_12
   clear hm_17 mo2_12 mo1_12 mo0_12
   refine ar (ro_assign ev_c) rfl <| ae2 (up_m rfl (up_n (up_m rfl s4_15))) up_h ?_; clear s11_15 s46_15 s4_15; intro e_18 s4_18 s5_18
   refine then_n <| aw_ret <| then_r <| ret2 (.inr rfl) (by kernel_rfl) (resV_cell s4_18 mo1_17 y31_ty81 (nle rfl) (by simp)) (resV_tmp s5_18) (vw_r (.ro _ rfl)) (.ro _ rfl) ?_
   clear s4_18 s5_18 mo1_17 mo2_17 mo0_17 ml_17
   (unfold benS; simp_all [frA])
  replace hq_14 := bf' hq_14
  refine al_ro' (ro_fld_ptr y31_fl81_1 rfl (up_m rfl (u4 rfl s11_13))) ⟨_, rfl, hb_14⟩ rfl ?_
  refine al_ro' (ro_eq (ro_ld_ptr y31_ty3 rfl mo2_12 up_h (nle rfl)) (by simp only [pS, Value.cells, Nat.reduceAdd] <;> rfl)) ⟨_, rfl, (up_m rfl hb_14)⟩ rfl ?_
  refine al_ro' (ro_gtr up_h ev_c) ⟨_, rfl, (u2 rfl hb_14)⟩ rfl ?_
  refine ar (ro_pickF (up_m rfl (u2 rfl hb_14)) up_h) rfl <| ae3 (up_m rfl (u8 rfl s4_13)) (up_m rfl (u8 rfl s11_13)) up_h ?_; clear hb_14 s11_13 s4_13; intro e_19 s4_19 s11_19 s46_19
  refine then_n <| aw_case s46_19 (fun hq_20 => ?_) (fun hq_20 => ?_)
  ·replace hq_20 := bt hq_20
   refine aw_seq <| at_ <| ar (ro_build evP_nil y31_bz81 y31_bu81 y31_bp81 rfl) rfl ?_
   refine al_stm (st_store (up_m rfl s4_19) up_h rfl rfl mo1_12 y31_sz81 rfl (nle rfl)) trivial rfl (fun m_21 hm_21 => ?_)
   have mo1_21 := m_set hm_21 mo1_12
   simp only [pS, Value.cells, Nat.reduceAdd] at mo1_21
   have mo2_21 := m_set_o hm_21 mo2_12 (by decide)
   have mo0_21 := m_set_o hm_21 mo0_12 (by decide)
   have ml_21 := m_set_l hm_21 ml_12
   clear hm_21 mo2_12 mo1_12 mo0_12
   refine ar (ro_assign ev_c) rfl <| ae2 (up_m rfl (up_n (up_m rfl s4_19))) up_h ?_; clear s11_19 s46_19 s4_19; intro e_22 s4_22 s5_22
   refine then_n <| aw_ret <| then_r <| ret2 (.inr rfl) (by kernel_rfl) (resV_cell s4_22 mo1_21 y31_ty81 (nle rfl) (by simp)) (resV_tmp s5_22) (vw_r (.ro _ rfl)) (.ro _ rfl) ?_
   clear s4_22 s5_22 mo1_21 mo2_21 mo0_21 ml_21
   (unfold benS; simp_all [frA])
  replace hq_20 := bf hq_20
  refine aw_skip <| then_n <| aw_seq <| at_ <| ar (ro_eq (ro_ld_ptr y31_ty81 rfl mo2_12 s11_19 (nle rfl)) (by simp only [pS, Value.cells, Nat.reduceAdd] <;> rfl)) rfl ?_
  refine al_stm (st_store (up_m rfl s4_19) up_h rfl rfl mo1_12 y31_sz81 rfl (nle rfl)) trivial rfl (fun m_23 hm_23 => ?_)
  have mo1_23 := m_set hm_23 mo1_12
  simp only [pS, Value.cells, Nat.reduceAdd] at mo1_23
  have mo2_23 := m_set_o hm_23 mo2_12 (by decide)
  have mo0_23 := m_set_o hm_23 mo0_12 (by decide)
  have ml_23 := m_set_l hm_23 ml_12
  clear hm_23 mo2_12 mo1_12 mo0_12
  refine ar (ro_assign ev_c) rfl <| ae2 (up_m rfl (up_n (up_m rfl s4_19))) up_h ?_; clear s11_19 s46_19 s4_19; intro e_24 s4_24 s5_24
  refine then_n <| aw_ret <| ret2 (.inr rfl) (by kernel_rfl) (resV_cell s4_24 mo1_23 y31_ty81 (nle rfl) (by simp)) (resV_tmp s5_24) (vw_r (.ro _ rfl)) (.ro _ rfl) ?_
  clear s4_24 s5_24 mo1_23 mo2_23 mo0_23 ml_23
  (unfold benS; simp_all [frA])
end Go.Proofs.Ytonjcljnpcmenaa

/- Contracts of chapter 1: the document's limits; the law of limits. No conditions on a program. -/
namespace Go.Proofs.Ytonjcljnpcmenaa
open Go Go.RowKit Go.Proofs
set_option linter.unusedSimpArgs false
set_option linter.unusedVariables false
theorem y55_sl49 : SlIs Try.prog 49 3 1 8 (.int .i64 0) := ⟨by kernel_rfl, by kernel_rfl, by kernel_rfl⟩
theorem y55_ty3 : TyIs Try.prog 3 false 1 := ⟨by kernel_rfl, by kernel_rfl⟩
set_option maxRecDepth 100000 in
set_option maxHeartbeats 4000000 in
theorem bIntsY_ok (a b : List Int) (ha : a.length ≤ 1000000000) (hb : b.length ≤ 1000000000) : FnOk Try.prog 26 [.row 1 (a.map iE), .row 1 (b.map iE)] (fun q => q = tbA (decide (a = b))) := by
  refine fnOk_of (fn := Try.f26) 26 (by kernel_rfl) rfl (by kernel_rfl) (Nat.le_of_ble_eq_true rfl) ?_
  intro e_0 m_0 hA hm_0
  have s0_0 : evA e_0 (.tmp 0) = _ := hA 0 _ rfl
  have s1_0 : evA e_0 (.tmp 1) = _ := hA 1 _ rfl
  have ml_0 : m_0.length = 0 := by rw [hm_0]; rfl
  clear hA hm_0
  refine aw_seq <| at_ <| ar (ro_assign ev_c) rfl <| ae2 (up_m rfl s0_0) (up_m rfl s1_0) ?_; clear s0_0 s1_0; intro e_1 s0_1 s1_1
  refine then_n <| aw_seq <| aw_seq <| at_ <| ar (ro_move s0_1) rfl <| ar (ro_eq (ro_len_row up_h rfl y55_sl49.1) (by simp only [lnS] <;> rfl)) rfl ?_
  refine ar (ro_move (u2 rfl s1_1)) rfl <| ar (ro_eq (ro_len_row up_h rfl y55_sl49.1) (by simp only [lnS] <;> rfl)) rfl ?_
  refine ar (ro_neq (u2 rfl up_h) up_h) rfl <| ae3 (up_m rfl (u4 rfl s0_1)) (up_m rfl (u4 rfl s1_1)) up_h ?_; clear s0_1 s1_1; intro e_2 s0_2 s1_2 s10_2
  refine then_n <| aw_case s10_2 (fun hq_3 => ?_) (fun hq_3 => ?_)
  ·replace hq_3 := bnt hq_3
   refine aw_seq <| at_ <| ar (ro_assign ev_c) rfl <| ae1 up_h ?_; clear s0_2 s10_2 s1_2; intro e_4 s4_4
   refine then_n <| aw_ret <| then_r <| ret1 (.inr rfl) (by kernel_rfl) (resV_tmp s4_4) (.ro _ rfl) ?_
   clear s4_4  ml_0
   (have hne : ¬ a = b := (fun hc => absurd (congrArg List.length hc) (by omega)); rw [decide_eq_false hne])
  replace hq_3 := bnf hq_3
  (have hl : a.length = b.length := (by omega))
  refine aw_skip <| then_n <| aw_seq <| aw_seq <| at_ <| ar (ro_assign ev_c) rfl <| ae3 (up_m rfl s0_2) (up_m rfl s1_2) up_h ?_; clear s0_2 s10_2 s1_2; intro e_5 s0_5 s1_5 s5_5
  refine then_n <| aw_block <| aw_loop (S := Int) (fun i e mem => (evA e (.tmp 5) = .v (.int .i64 i)) ∧ (evA e (.tmp 0) = evA e_5 (.tmp 0)) ∧ (evA e (.tmp 1) = evA e_5 (.tmp 1)) ∧ (mem.length = 0) ∧ ((0 ≤ i ∧ i ≤ a.length ∧ a.length = b.length ∧ ∀ j : Nat, j < i → a.getD j default = b.getD j default))) (fun i => (a.length - i).toNat) _ ⟨s5_5, rfl, rfl, ml_0, ?_⟩ ?_
  · (exact ⟨by omega, by omega, hl, fun j hj => by omega⟩)
  · rintro i e_6 m_6 ⟨s5_6, k0_6, k1_6, ml_6, hinv⟩
    have s0_6 := k0_6.trans s0_5
    have s1_6 := k1_6.trans s1_5
    (obtain ⟨p1, p2, p3, p4⟩ := hinv)
    refine aw_seq <| aw_seq <| at_ <| ar (ro_move s5_6) rfl <| ar (ro_move (up_m rfl s0_6)) rfl <| ar (ro_eq (ro_len_row up_h rfl y55_sl49.1) (by simp only [lnS] <;> rfl)) rfl ?_
    refine ar (ro_lss (u2 rfl up_h) up_h) rfl <| ae4 (u4 rfl s0_6) (u4 rfl s1_6) (u4 rfl s5_6) up_h ?_; clear s0_6 s1_6 s5_6; intro e_7 s0_7 s1_7 s5_7 s14_7
    refine then_n <| aw_case s14_7 (fun hq_8 => ?_) (fun hq_8 => ?_)
    ·replace hq_8 := bt hq_8
     refine aw_skip <| then_n <| aw_seq <| aw_block <| aw_seq <| aw_draw 9 (by kernel_rfl) (by kernel_rfl) (by kernel_rfl) (by kernel_rfl) ?_
     refine dr (ro_move s0_7) rfl <| dr (ro_move (up_m rfl s5_7)) rfl <| dr (ro_eq (ro_ix y55_sl49 (up_m rfl up_h) up_h (by omega) (by first | (refine idx_map ?_; first | omega | (simp only [lnS]; omega)) | (refine idx_mapI ?_; first | omega | (simp only [lnS]; omega)) | (refine idx_mapN ?_; first | omega | (simp only [lnS]; omega)) | rfl)) (by simp only [pS, Value.cells, Nat.reduceAdd, iE] <;> rfl)) rfl ?_
     refine dr (ro_eq (ro_ld_ref y55_ty3 rfl up_h (nle rfl)) (by simp only [pS, Value.cells, Nat.reduceAdd, iE] <;> rfl)) rfl ?_
     refine dr (ro_move (u4 rfl s1_7)) rfl <| dr (ro_move (up_m rfl (u4 rfl s5_7))) rfl <| dr (ro_eq (ro_ix y55_sl49 (up_m rfl up_h) up_h (by omega) (by first | (refine idx_map ?_; first | omega | (simp only [lnS]; omega)) | (refine idx_mapI ?_; first | omega | (simp only [lnS]; omega)) | (refine idx_mapN ?_; first | omega | (simp only [lnS]; omega)) | rfl)) (by simp only [pS, Value.cells, Nat.reduceAdd, iE] <;> rfl)) rfl ?_
     refine dr (ro_eq (ro_ld_ref y55_ty3 rfl up_h (nle rfl)) (by simp only [pS, Value.cells, Nat.reduceAdd, iE] <;> rfl)) rfl ?_
     refine dr (ro_neq (u4 rfl up_h) up_h) rfl <| ds_nil <| ae4 (up_m rfl (u8 rfl s0_7)) (up_m rfl (u8 rfl s1_7)) (up_m rfl (u8 rfl s5_7)) up_h ?_; clear s0_7 s14_7 s1_7 s5_7; intro e_9 s0_9 s1_9 s5_9 s25_9
     refine then_n <| aw_case s25_9 (fun hq_10 => ?_) (fun hq_10 => ?_)
     ·replace hq_10 := bnt hq_10
      refine aw_seq <| at_ <| ar (ro_assign ev_c) rfl <| ae1 up_h ?_; clear s0_9 s1_9 s25_9 s5_9; intro e_11 s4_11
      refine then_n <| aw_ret <| block_r <| then_r <| then_r <| block_r <| then_r <| ret1 (.inr rfl) (by kernel_rfl) (resV_tmp s4_11) (.ro _ rfl) ?_
      clear s4_11  ml_6
      (have hne : ¬ a = b := (fun hc => absurd (congrArg (fun l => l.getD i.toNat default) hc) (by assumption)); rw [decide_eq_false hne])
     replace hq_10 := bnf hq_10
     refine aw_skip <| block_n <| then_n <| at_ <| ar (ro_move s5_9) rfl ?_
     (refine ar (ro_add' up_h ev_c ?_) rfl ?_; · (unfold In64; omega))
     refine ar (ro_assign up_h) rfl <| ae3 (up_m rfl (u2 rfl s0_9)) (up_m rfl (u2 rfl s1_9)) up_h ?_; clear s0_9 s1_9 s25_9 s5_9; intro e_12 s0_12 s1_12 s5_12
     refine then_n <| ⟨_, ⟨s5_12, (s0_12.trans s0_5.symm), (s1_12.trans s1_5.symm), ml_6, ?_⟩, ?_⟩
     · (refine ⟨by omega, by omega, p3, fun q hq => ?_⟩; by_cases hj : (q : Int) = i; (rw [show q = i.toNat by omega]; omega); exact p4 q (by omega))
     · ((try dsimp only); omega)
    replace hq_8 := bf hq_8
    refine aw_exit <| then_x <| then_x <| block_hit <| then_n <| aw_seq <| at_ <| ar (ro_assign ev_c) rfl <| ae1 up_h ?_; clear s0_7 s14_7 s1_7 s5_7; intro e_13 s4_13
    refine then_n <| aw_ret <| ret1 (.inr rfl) (by kernel_rfl) (resV_tmp s4_13) (.ro _ rfl) ?_
    clear s4_13  ml_6
    (rw [decide_eq_true (list_same p3 fun j hj => p4 j (by omega))])
end Go.Proofs.Ytonjcljnpcmenaa

