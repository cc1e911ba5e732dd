/- Texts of this claim, one behind the other: lemmas for the statement. -/
import Derived.Test.YtonjcljnpcmenaaM8
import Derived.Test.YtonjcljnpcmenaaA27
import Derived.Test.YtonjcljnpcmenaaT0
import Derived.Test.YtonjcljnpcmenaaM6
import Derived.Test.YtonjcljnpcmenaaM7
/- Plain: digits compared, taken away, divided. No program in sight. -/
namespace Go.Proofs.Ytonjcljnpcmenaa
open Go Go.RowKit Go.Proofs
set_option linter.unusedSimpArgs false
set_option linter.unusedVariables false

theorem digN_mono {m n : Nat} (h : m ≤ n) : (digN m).length ≤ (digN n).length := by
  have h1 := valD_lt (digN_gd n)
  rw [digN_val] at h1
  have h2 : ((n : Nat) : Int) < ((1000000000 ^ (digN n).length : Nat) : Int) := by rw [Int.natCast_pow]; exact h1
  exact digN_len (Nat.lt_of_le_of_lt h (Int.ofNat_lt.1 h2))
theorem list_same {a b : List Int} (hl : a.length = b.length) (h : ∀ q : Nat, q < a.length → a.getD q default = b.getD q default) : a = b := by
  refine List.ext_getElem hl fun n h1 h2 => ?_
  have := h n h1
  rw [List.getD_eq_getElem?_getD, List.getD_eq_getElem?_getD, List.getElem?_eq_getElem h1, List.getElem?_eq_getElem h2] at this
  exact this
theorem getD_far {ds : List Int} {i : Nat} (h : ds.length ≤ i) : ds.getD i default = 0 := by rw [List.getD_eq_getElem?_getD, List.getElem?_eq_none h]; rfl
theorem valD_takeD {ds : List Int} {k : Nat} : valD (ds.take (k + 1)) = valD (ds.take k) + ds.getD k default * 1000000000 ^ k := by
  by_cases h : k < ds.length
  · exact valD_take h
  · rw [List.take_of_length_le (by omega), List.take_of_length_le (by omega), getD_far (by omega), Int.zero_mul, Int.add_zero]
theorem valD_push {ds : List Int} {i : Nat} (h : ds.length = i) (v : Int) : valD (ds ++ [v]) = valD ds + v * 1000000000 ^ i := by
  rw [valD_app, h, valD, valD, Int.mul_zero, Int.add_zero, Int.mul_comm]
/-- Less digits taken away: what is so far, and what was borrowed. -/
structure SB (a b o : List Int) (i : Nat) (w : Int) : Prop where
  len : o.length = i
  gd : GD o
  w01 : 0 ≤ w ∧ w ≤ 1
  v : valD o = valD (a.take i) - valD (b.take i) + w * 1000000000 ^ i
theorem SB.first (a b : List Int) : SB a b [] 0 0 := ⟨rfl, GD.nil, by omega, by simp [valD]⟩
theorem SB.next {a b o : List Int} {i : Nat} {w x y : Int} (h : SB a b o i w) (ha : GD a) (hb : GD b) (hx : x = a.getD i default - b.getD i default - w + y * 1000000000) (hy : 0 ≤ y ∧ y ≤ 1) (hr : 0 ≤ x ∧ x < 1000000000) : SB a b (o ++ [x]) (i + 1) y := by
  refine ⟨by simp [h.len], h.gd.app (GD.one hr), hy, ?_⟩
  rw [valD_push h.len, h.v, valD_takeD, valD_takeD, Int.pow_succ, hx]
  generalize (1000000000 : Int) ^ i = P
  rw [Int.add_mul, Int.sub_mul, Int.sub_mul, Int.mul_comm P, ← Int.mul_assoc]
  omega
theorem SB.done {m n : Nat} {o : List Int} {w : Int} (h : SB (digN m) (digN n) o (digN m).length w) (hmn : n ≤ m) : (valD o).toNat = m - n := by
  have hv := h.v
  rw [List.take_length, List.take_of_length_le (digN_mono hmn), digN_val, digN_val] at hv
  have h1 := valD_lt h.gd
  rw [h.len] at h1
  have h2 := h.w01
  rcases (show w = 0 ∨ w = 1 by omega) with rfl | rfl <;> omega
/-- Digits added. -/
structure AD (a b o : List Int) (i : Nat) (w : Int) : Prop where
  len : o.length = i
  gd : GD o
  w01 : 0 ≤ w ∧ w ≤ 1
  v : valD o + w * 1000000000 ^ i = valD (a.take i) + valD (b.take i)
theorem AD.first (a b : List Int) : AD a b [] 0 0 := ⟨rfl, GD.nil, by omega, by simp [valD]⟩
theorem AD.next {a b o : List Int} {i : Nat} {w x : Int} (h : AD a b o i w) (ha : GD a) (hb : GD b) (hx : x = a.getD i default + b.getD i default + w) : AD a b (o ++ [x % 1000000000]) (i + 1) (x / 1000000000) := by
  have h1 := ha.at i
  have h2 := hb.at i
  have h3 := h.w01
  refine ⟨by simp [h.len], h.gd.app (GD.one (by omega)), by omega, ?_⟩
  have hv := h.v
  rw [valD_push h.len, valD_takeD, valD_takeD, Int.pow_succ]
  generalize (1000000000 : Int) ^ i = P at *
  have e1 : x / 1000000000 * (P * 1000000000) = (x - x % 1000000000) * P := by
    rw [Int.mul_comm P, ← Int.mul_assoc, show x / 1000000000 * 1000000000 = x - x % 1000000000 by omega]
  rw [e1, hx, Int.sub_mul, Int.add_mul, Int.add_mul]
  omega
theorem AD.done {a b o : List Int} {i : Nat} (h : AD a b o i 0) (ha : a.length ≤ i) (hb : b.length ≤ i) : valD o = valD a + valD b := by
  have hv := h.v
  rw [List.take_of_length_le ha, List.take_of_length_le hb] at hv
  omega
/-- A quotient, digit by digit from the top. -/
structure WF (a : List Int) (b : Int) (q : List Int) (i : Nat) (r : Int) : Prop where
  len : q.length = a.length
  gd : GD q
  r0 : 0 ≤ r ∧ r < b
  v : valD (a.drop i) = valD (q.drop i) * b + r
theorem WF.first {a : List Int} {b : Int} (hb : 0 < b) : WF a b (List.replicate a.length 0) a.length 0 := by
  refine ⟨by simp, GD.rep _, by omega, ?_⟩
  rw [List.drop_of_length_le (by omega), List.drop_of_length_le (by simp)]; simp [valD]
theorem WF.next {a q : List Int} {b r d x : Int} {i : Nat} (h : WF a b q (i + 1) r) (hi : i < a.length) (hd : d = a.getD i default + 1000000000 * r) (hx : 0 ≤ x ∧ x < 1000000000) (hr : 0 ≤ d - b * x ∧ d - b * x < b) : WF a b (q.set i x) i (d - b * x) := by
  have hv := h.v
  have hq : i < q.length := by rw [h.len]; exact hi
  refine ⟨by rw [List.length_set]; exact h.len, h.gd.set _ hx, hr, ?_⟩
  have e2 : (q.set i x).drop i = x :: q.drop (i + 1) := by
    rw [List.drop_eq_getElem_cons (by rw [List.length_set]; exact hq), List.getElem_set_self, List.drop_set_of_lt (by omega)]
  rw [e2, List.drop_eq_getElem_cons hi, valD, valD, hv, Int.add_mul, hd, List.getD_eq_getElem?_getD, List.getElem?_eq_getElem hi, Int.mul_add, Int.mul_assoc, Int.mul_comm b x]
  simp only [Option.getD_some]
  omega
theorem WF.done {a q : List Int} {b r : Int} (h : WF a b q 0 r) : valD q = valD a / b := by
  have hv := h.v
  rw [List.drop_zero, List.drop_zero] at hv
  have := h.r0
  rw [hv, Int.add_comm, Int.add_mul_ediv_right _ _ (by omega), Int.ediv_eq_zero_of_lt this.1 this.2, Int.zero_add]
end Go.Proofs.Ytonjcljnpcmenaa

/- Contracts: wide numbers multiplied, compared, taken away. No conditions on a program. -/
namespace Go.Proofs.Ytonjcljnpcmenaa
open Go Go.RowKit Go.Proofs
set_option linter.unusedSimpArgs false
set_option linter.unusedVariables false
end Go.Proofs.Ytonjcljnpcmenaa

/- Contracts: digits compared, added, taken away. No conditions on a program. -/
namespace Go.Proofs.Ytonjcljnpcmenaa
open Go Go.RowKit Go.Proofs
set_option linter.unusedSimpArgs false
set_option linter.unusedVariables false
theorem digN_big {m i : Nat} (h : i < (digN m).length) : (1000000000 : Int) ^ i ≤ m := by
  refine Int.not_lt.1 fun hc => ?_
  have h2 : ((m : Nat) : Int) < ((1000000000 ^ i : Nat) : Int) := by rw [Int.natCast_pow]; exact hc
  have := digN_len (Int.ofNat_lt.1 h2)
  omega
theorem AD.top {m n : Nat} {o : List Int} {i : Nat} {w : Int} (h : AD (digN m) (digN n) o i w) (hg : i < (digN m).length ∨ i < (digN n).length ∨ 0 < w) : (1000000000 : Int) ^ i ≤ (m : Int) + n := by
  have hp : (0 : Int) < 1000000000 ^ i := Int.pow_pos (by decide)
  by_cases h1 : i < (digN m).length
  · have := digN_big h1; omega
  · by_cases h2 : i < (digN n).length
    · have := digN_big h2; omega
    · have hv := h.v
      rw [List.take_of_length_le (by omega), List.take_of_length_le (by omega), digN_val, digN_val] at hv
      have hw := h.w01
      have hn := valD_nn h.gd
      have : w = 1 := by omega
      subst this
      rw [Int.one_mul] at hv
      omega
end Go.Proofs.Ytonjcljnpcmenaa

/- Contracts: wide numbers added, compared, divided. No conditions on a program. -/
namespace Go.Proofs.Ytonjcljnpcmenaa
open Go Go.RowKit Go.Proofs
set_option linter.unusedSimpArgs false
set_option linter.unusedVariables false
end Go.Proofs.Ytonjcljnpcmenaa

/- Contracts: wide numbers compared, divided. No conditions on a program. -/
namespace Go.Proofs.Ytonjcljnpcmenaa
open Go Go.RowKit Go.Proofs
set_option linter.unusedSimpArgs false
set_option linter.unusedVariables false
end Go.Proofs.Ytonjcljnpcmenaa

/- Contracts of chapter 1: gradients and bends. No conditions on a program. -/
namespace Go.Proofs.Ytonjcljnpcmenaa
open Go Go.RowKit Go.Proofs
set_option linter.unusedSimpArgs false
set_option linter.unusedVariables false
theorem y30_hcf102 : ∀ args w, (callFunc 102 args).run Try.prog w = .ok (.enter 102 args) w := fun _ _ => by kernel_rfl
theorem y30_hcf103 : ∀ args w, (callFunc 103 args).run Try.prog w = .ok (.enter 103 args) w := fun _ _ => by kernel_rfl
theorem y30_hcf105 : ∀ args w, (callFunc 105 args).run Try.prog w = .ok (.enter 105 args) w := fun _ _ => by kernel_rfl
theorem y30_sl22 : SlIs Try.prog 22 70 4 32 (.agg #[.int .i64 0, .int .i64 0, .int .i64 0, .int .i64 0]) := ⟨by kernel_rfl, by kernel_rfl, by kernel_rfl⟩
theorem y30_sl23 : SlIs Try.prog 23 87 2 16 (.agg #[.int .i64 0, .int .i64 0]) := ⟨by kernel_rfl, by kernel_rfl, by kernel_rfl⟩
theorem y30_ty22 : TyIs Try.prog 22 false 1 := ⟨by kernel_rfl, by kernel_rfl⟩
theorem y30_ty23 : TyIs Try.prog 23 false 1 := ⟨by kernel_rfl, by kernel_rfl⟩
theorem y30_ty26 : TyIs Try.prog 26 true 4 := ⟨by kernel_rfl, by kernel_rfl⟩
theorem y30_ty3 : TyIs Try.prog 3 false 1 := ⟨by kernel_rfl, by kernel_rfl⟩
theorem y30_ty81 : TyIs Try.prog 81 true 2 := ⟨by kernel_rfl, by kernel_rfl⟩

theorem fraD_bd {n b : Int} (hb : 0 < b) : 1 ≤ fraD n b ∧ fraD n b ≤ b := by
  have hg : 0 < Int.gcd n b := Int.gcd_pos_of_ne_zero_right _ (by omega)
  have hd : (Int.gcd n b : Int) ∣ b := Int.gcd_dvd_right ..
  unfold fraD
  rw [Int.tdiv_eq_ediv_of_nonneg (by omega)]
  have h1 := Int.ediv_le_self (a := b) (Int.gcd n b : Int) (by omega)
  have h2 := Int.ediv_mul_cancel hd
  refine ⟨?_, h1⟩
  by_cases h0 : 0 < b / (Int.gcd n b : Int)
  · omega
  · have := Int.mul_le_mul_of_nonneg_right (show b / (Int.gcd n b : Int) ≤ 0 by omega) (show (0 : Int) ≤ Int.gcd n b by omega)
    rw [h2] at this; omega
theorem fraN_bd {n b : Int} : (fraN n b).natAbs ≤ n.natAbs := Int.natAbs_tdiv_le_natAbs _ _
/-- The gradient of a beam. -/
def graN (l : Lin) (i : Nat) : Int := 1000 * ((l.js.getD (i + 1) default).up - (l.js.getD i default).up)
def graX (l : Lin) (i : Nat) : Int := fraN (graN l i) (l.bs.getD i default).len
def graY (l : Lin) (i : Nat) : Int := fraD (graN l i) (l.bs.getD i default).len
theorem gra_bd {l : Lin} (h : Rgt l) {i : Nat} (hi : i < l.bs.length) : (graN l i).natAbs ≤ 40000000 ∧ (graX l i).natAbs ≤ 40000000 ∧ 1 ≤ graY l i ∧ graY l i ≤ 30000 := by
  have hjs := h.js
  have j1 := h.jnt i (by omega)
  have j2 := h.jnt (i + 1) (by omega)
  have b1 := h.bea i hi
  have f1 := fraN_bd (n := graN l i) (b := (l.bs.getD i default).len)
  have f2 := fraD_bd (n := graN l i) (b := (l.bs.getD i default).len) (by omega)
  have h0 : (graN l i).natAbs ≤ 40000000 := by unfold graN; omega
  exact ⟨h0, by unfold graX; omega, by unfold graY; omega, by unfold graY; omega⟩
set_option maxRecDepth 100000 in
set_option maxHeartbeats 4000000 in
theorem gradient_ok (l : Lin) (h : Rgt l) (i : Nat) (hi : i < l.bs.length) : FnOk Try.prog 103 [tkA l, mA i] (fun q => q = frA (graX l i) (graY l i)) := by
  refine fnOk_of (fn := Try.f103) 36 (by kernel_rfl) rfl (by kernel_rfl) (Nat.le_of_ble_eq_true rfl) ?_
  intro e_0 m_0 hA hm_0
  have s0_0 : evA e_0 (.tmp 0) = _ := hA 0 _ rfl
  have s1_0 : evA e_0 (.tmp 1) = _ := hA 1 _ rfl
  have ml_0 : m_0.length = 0 := by rw [hm_0]; rfl
  clear hA hm_0
  have hn1 := h.n1; have hjs := h.js; have j1 := h.jnt i (by omega); have j2 := h.jnt (i + 1) (by omega); have b1 := h.bea i hi
  refine aw_seq <| at_ <| al_stm (st_alloc qaz81 rfl ml_0) trivial rfl (fun m_1 hm_1 => ?_)
  have mo0_1 := m_push hm_1 ml_0
  simp only [pS, Value.cells, Nat.reduceAdd, jnE, beE, Int.toNat_natCast, toNat_suc] at mo0_1
  have ml_1 := m_push_l hm_1 ml_0
  have ml_1 : _ = 1 := ml_1
  clear hm_1
  refine ae3 (up_m rfl s0_0) (up_m rfl s1_0) up_h ?_; clear s0_0 s1_0; intro e_2 s0_2 s1_2 s4_2
  refine then_n <| aw_seq <| aw_draw 31 (by kernel_rfl) (by kernel_rfl) (by kernel_rfl) (by kernel_rfl) ?_
  refine dr (ro_move s0_2) rfl <| dr (ro_nilR up_h) rfl <| dr (ro_eq (ro_fld_ref qfl141_0 rfl up_h) (by simp only [pS, Value.cells, Nat.reduceAdd, jnE, beE, Int.toNat_natCast, toNat_suc] <;> rfl)) rfl ?_
  refine dr (ro_eq (ro_fld_ref qfl26_1 rfl up_h) (by simp only [pS, Value.cells, Nat.reduceAdd, jnE, beE, Int.toNat_natCast, toNat_suc] <;> rfl)) rfl ?_
  refine dr (ro_eq (ro_ld_ref y30_ty22 rfl up_h (nle rfl)) (by simp only [pS, Value.cells, Nat.reduceAdd, jnE, beE, Int.toNat_natCast, toNat_suc] <;> rfl)) rfl ?_
  refine dr (ro_move (up_m rfl (u4 rfl s1_2))) rfl ?_
  (refine dr (ro_add' up_h ev_c ?_) rfl ?_; · (unfold In64; omega))
  refine dr (ro_eq (ro_ix y30_sl22 (u2 rfl up_h) up_h (by omega) (by refine idx_map ?_; first | omega | (simp only [lnS]; omega))) (by simp only [pS, Value.cells, Nat.reduceAdd, jnE, beE, Int.toNat_natCast, toNat_suc] <;> rfl)) rfl ?_
  refine dr (ro_eq (ro_fld_ref qfl70_1 rfl up_h) (by simp only [pS, Value.cells, Nat.reduceAdd, jnE, beE, Int.toNat_natCast, toNat_suc] <;> rfl)) rfl ?_
  refine dr (ro_eq (ro_ld_ref y30_ty3 rfl up_h (nle rfl)) (by simp only [pS, Value.cells, Nat.reduceAdd, jnE, beE, Int.toNat_natCast, toNat_suc] <;> rfl)) rfl ?_
  refine dr (ro_move (u2 rfl (u8 rfl s0_2))) rfl <| dr (ro_nilR up_h) rfl <| dr (ro_eq (ro_fld_ref qfl141_0 rfl up_h) (by simp only [pS, Value.cells, Nat.reduceAdd, jnE, beE, Int.toNat_natCast, toNat_suc] <;> rfl)) rfl ?_
  refine dr (ro_eq (ro_fld_ref qfl26_1 rfl up_h) (by simp only [pS, Value.cells, Nat.reduceAdd, jnE, beE, Int.toNat_natCast, toNat_suc] <;> rfl)) rfl ?_
  refine dr (ro_eq (ro_ld_ref y30_ty22 rfl up_h (nle rfl)) (by simp only [pS, Value.cells, Nat.reduceAdd, jnE, beE, Int.toNat_natCast, toNat_suc] <;> rfl)) rfl ?_
  refine dr (ro_move (up_m rfl (u2 rfl (u4 rfl (u8 rfl s1_2))))) rfl <| dr (ro_eq (ro_ix y30_sl22 (up_m rfl up_h) up_h (by omega) (by first | (refine idx_map ?_; first | omega | (simp only [lnS]; omega)) | (refine idx_mapI ?_; first | omega | (simp only [lnS]; omega)) | (refine idx_mapN ?_; first | omega | (simp only [lnS]; omega)) | rfl)) (by simp only [pS, Value.cells, Nat.reduceAdd, jnE, beE, Int.toNat_natCast, toNat_suc] <;> rfl)) rfl ?_
  refine dr (ro_eq (ro_fld_ref qfl70_1 rfl up_h) (by simp only [pS, Value.cells, Nat.reduceAdd, jnE, beE, Int.toNat_natCast, toNat_suc] <;> rfl)) rfl ?_
  refine dr (ro_eq (ro_ld_ref y30_ty3 rfl up_h (nle rfl)) (by simp only [pS, Value.cells, Nat.reduceAdd, jnE, beE, Int.toNat_natCast, toNat_suc] <;> rfl)) rfl ?_
  (refine dr (ro_sub' (up_m rfl (u8 rfl up_h)) up_h ?_) rfl ?_; · (unfold In64; omega))
  (refine dr (ro_mul' ev_c up_h ?_) rfl ?_; · (unfold In64; omega))
  refine dr (ro_move (up_m rfl (u4 rfl (u16 rfl s0_2)))) rfl <| dr (ro_nilR up_h) rfl <| dr (ro_eq (ro_fld_ref qfl141_0 rfl up_h) (by simp only [pS, Value.cells, Nat.reduceAdd, jnE, beE, Int.toNat_natCast, toNat_suc] <;> rfl)) rfl ?_
  refine dr (ro_eq (ro_fld_ref qfl26_2 rfl up_h) (by simp only [pS, Value.cells, Nat.reduceAdd, jnE, beE, Int.toNat_natCast, toNat_suc] <;> rfl)) rfl ?_
  refine dr (ro_eq (ro_ld_ref y30_ty23 rfl up_h (nle rfl)) (by simp only [pS, Value.cells, Nat.reduceAdd, jnE, beE, Int.toNat_natCast, toNat_suc] <;> rfl)) rfl ?_
  refine dr (ro_move (u2 rfl (u8 rfl (u16 rfl s1_2)))) rfl <| dr (ro_eq (ro_ix y30_sl23 (up_m rfl up_h) up_h (by omega) (by first | (refine idx_map ?_; first | omega | (simp only [lnS]; omega)) | (refine idx_mapI ?_; first | omega | (simp only [lnS]; omega)) | (refine idx_mapN ?_; first | omega | (simp only [lnS]; omega)) | rfl)) (by simp only [pS, Value.cells, Nat.reduceAdd, jnE, beE, Int.toNat_natCast, toNat_suc] <;> rfl)) rfl ?_
  refine dr (ro_eq (ro_fld_ref qfl87_0 rfl up_h) (by simp only [pS, Value.cells, Nat.reduceAdd, jnE, beE, Int.toNat_natCast, toNat_suc] <;> rfl)) rfl ?_
  refine dr (ro_eq (ro_ld_ref y30_ty3 rfl up_h (nle rfl)) (by simp only [pS, Value.cells, Nat.reduceAdd, jnE, beE, Int.toNat_natCast, toNat_suc] <;> rfl)) rfl ?_
  refine dr (ro_call (evL_cons (up_m rfl (u8 rfl up_h)) (evL_cons up_h evL_nil)) rfl (frac_ok _ _ (by omega) (by omega)) y30_hcf105) rfl ?_
  refine ds_nil <| al_stm (st_store (up_m rfl (u2 rfl (u4 rfl (u8 rfl (u16 rfl s4_2))))) up_h rfl rfl mo0_1 qsz81 rfl (nle rfl)) trivial rfl (fun m_3 hm_3 => ?_)
  have mo0_3 := m_set hm_3 mo0_1
  simp only [pS, Value.cells, Nat.reduceAdd, jnE, beE, Int.toNat_natCast, toNat_suc] at mo0_3
  have ml_3 := m_set_l hm_3 ml_1
  clear hm_3 mo0_1
  refine ae1 (up_n (up_m rfl (u2 rfl (u4 rfl (u8 rfl (u16 rfl s4_2)))))) ?_; clear s0_2 s1_2 s4_2; intro e_4 s4_4
  refine then_n <| aw_ret <| ret1 (.inr rfl) (by kernel_rfl) (resV_cell s4_4 mo0_3 y30_ty81 (nle rfl) (by simp)) (vw_r (.ro _ rfl)) ?_
  clear s4_4 mo0_3 ml_3
  rfl
set_option maxRecDepth 100000 in
set_option maxHeartbeats 4000000 in
theorem gradientOf_in (l : Lin) (hl : Sho l) (hg : (linM l).2 = 0) (i : Int) (hm : misE i 0 (l.bs.length - 1) = 0) : FnOk Try.prog 46 [lnA l, mA i] (fun q => q = .tuple [frA (graX l i.toNat) (graY l i.toNat), mA 0]) := by
  refine fnOk_of (fn := Try.f46) 28 (by kernel_rfl) rfl (by kernel_rfl) (Nat.le_of_ble_eq_true rfl) ?_
  intro e_0 m_0 hA hm_0
  have s0_0 : evA e_0 (.tmp 0) = _ := hA 0 _ rfl
  have s1_0 : evA e_0 (.tmp 1) = _ := hA 1 _ rfl
  have ml_0 : m_0.length = 0 := by rw [hm_0]; rfl
  clear hA hm_0
  have h := rgt_of hg; have hm2 := misE_z.1 hm; have gr := gradient_ok l h i.toNat (by omega); rw [show ((i.toNat : Nat) : Int) = i by omega] at gr
  refine aw_seq <| at_ <| al_stm (st_box s0_0 rfl ml_0) trivial rfl (fun m_1 hm_1 => ?_)
  have mo0_1 := m_push hm_1 ml_0
  have ml_1 := m_push_l hm_1 ml_0
  have ml_1 : _ = 1 := ml_1
  clear hm_1
  refine al_stm (st_alloc qaz81 rfl ml_1) trivial rfl (fun m_2 hm_2 => ?_)
  have mo1_2 := m_push hm_2 ml_1
  simp only [pS, Value.cells, Nat.reduceAdd] at mo1_2
  have mo0_2 := m_push_o hm_2 mo0_1
  have ml_2 := m_push_l hm_2 ml_1
  have ml_2 : _ = 2 := ml_2
  clear hm_2 mo0_1
  refine ar (ro_assign ev_c) rfl <| ae3 (up_m rfl (u2 rfl s1_0)) (u2 rfl up_h) (up_m rfl up_h) ?_; clear s0_0 s1_0; intro e_3 s1_3 s2_3 s4_3
  refine then_n <| aw_seq <| at_ <| ar (ro_eq (ro_ld_ptr y30_ty26 rfl mo0_2 s2_3 (nle rfl)) (by simp only [pS, Value.cells, Nat.reduceAdd] <;> rfl)) rfl ?_
  refine ar (ro_call (evL_cons up_h evL_nil) rfl (yOpen_good l hl hg) qhcf76) rfl <| ar (ro_move up_h) rfl <| ar (ro_extract up_h rfl) rfl <| ar (ro_extract (up_m rfl up_h) rfl) rfl <| ar (ro_assign (up_m rfl up_h)) rfl <| ar (ro_assign (up_m rfl up_h)) rfl <| ae4 (up_m rfl (u2 rfl (u4 rfl s1_3))) (up_m rfl (u2 rfl (u4 rfl s4_3))) (up_m rfl up_h) up_h ?_; clear s1_3 s2_3 s4_3; intro e_4 s1_4 s4_4 s6_4 s7_4
  refine then_n <| aw_seq <| aw_seq <| at_ <| ar (ro_move s7_4) rfl <| ar (ro_neq up_h ev_c) rfl <| ae5 (u2 rfl s1_4) (u2 rfl s4_4) (u2 rfl s6_4) (u2 rfl s7_4) up_h ?_; clear s1_4 s4_4 s6_4 s7_4; intro e_5 s1_5 s4_5 s6_5 s7_5 s15_5
  refine then_n <| aw_case s15_5 (fun hq_6 => ?_) (fun hq_6 => ?_)
  · cases hq_6
  replace hq_6 := bnf hq_6
  refine aw_skip <| then_n <| aw_seq <| aw_seq <| at_ <| ar (ro_move s6_5) rfl <| ar (ro_move (up_m rfl s1_5)) rfl <| ar (ro_call (evL_cons (up_m rfl up_h) (evL_cons up_h evL_nil)) rfl (yBeamErr_ok l h i) y30_hcf102) rfl <| ar (ro_assign up_h) rfl <| ae4 (u4 rfl s1_5) (u4 rfl s4_5) (u4 rfl s6_5) up_h ?_; clear s15_5 s1_5 s4_5 s6_5 s7_5; intro e_7 s1_7 s4_7 s6_7 s8_7
  refine then_n <| aw_seq <| at_ <| ar (ro_move s8_7) rfl <| ar (ro_neq up_h ev_c) rfl <| ae5 (u2 rfl s1_7) (u2 rfl s4_7) (u2 rfl s6_7) (u2 rfl s8_7) up_h ?_; clear s1_7 s4_7 s6_7 s8_7; intro e_8 s1_8 s4_8 s6_8 s8_8 s22_8
  refine then_n <| aw_case s22_8 (fun hq_9 => ?_) (fun hq_9 => ?_)
  · replace hq_9 := bnt hq_9; exfalso; omega
  replace hq_9 := bnf hq_9
  refine aw_skip <| then_n <| aw_seq <| at_ <| ar (ro_move s6_8) rfl <| ar (ro_move (up_m rfl s1_8)) rfl <| ar (ro_call (evL_cons (up_m rfl up_h) (evL_cons up_h evL_nil)) rfl (gr) y30_hcf103) rfl <| al_stm (st_store (up_m rfl (u2 rfl s4_8)) up_h rfl rfl mo1_2 qsz81 rfl (nle rfl)) trivial rfl (fun m_10 hm_10 => ?_)
  have mo1_10 := m_set hm_10 mo1_2
  simp only [pS, Value.cells, Nat.reduceAdd] at mo1_10
  have mo0_10 := m_set_o hm_10 mo0_2 (by decide)
  have ml_10 := m_set_l hm_10 ml_2
  clear hm_10 mo1_2 mo0_2
  refine ar (ro_assign ev_c) rfl <| ae2 (up_m rfl (up_n (up_m rfl (u2 rfl s4_8)))) up_h ?_; clear s1_8 s22_8 s4_8 s6_8 s8_8; intro e_11 s4_11 s5_11
  refine then_n <| aw_ret <| ret2 (.inr rfl) (by kernel_rfl) (resV_cell s4_11 mo1_10 y30_ty81 (nle rfl) (by simp)) (resV_tmp s5_11) (vw_r (.ro _ rfl)) (.ro _ rfl) ?_
  clear s4_11 s5_11 mo1_10 mo0_10 ml_10
  rfl
end Go.Proofs.Ytonjcljnpcmenaa

/- Contracts of chapter 1: bends; the law on gradients. No conditions on a program. -/
namespace Go.Proofs.Ytonjcljnpcmenaa
open Go Go.RowKit Go.Proofs
set_option linter.unusedSimpArgs false
set_option linter.unusedVariables false
end Go.Proofs.Ytonjcljnpcmenaa

/- Contracts of chapter 1: the document's limits; the law of limits. No conditions on a program. -/
namespace Go.Proofs.Ytonjcljnpcmenaa
open Go Go.RowKit Go.Proofs
set_option linter.unusedSimpArgs false
set_option linter.unusedVariables false
theorem y55_sl49 : SlIs Try.prog 49 3 1 8 (.int .i64 0) := ⟨by kernel_rfl, by kernel_rfl, by kernel_rfl⟩
theorem y55_ty3 : TyIs Try.prog 3 false 1 := ⟨by kernel_rfl, by kernel_rfl⟩
set_option maxRecDepth 100000 in
set_option maxHeartbeats 4000000 in
theorem rSideErr_ok (n : Int) : FnOk Try.prog 25 [mA n] (fun q => q = mA (sidE n)) := by
  refine fnOk_of (fn := Try.f25) 6 (by kernel_rfl) rfl (by kernel_rfl) (Nat.le_of_ble_eq_true rfl) ?_
  intro e_0 m_0 hA hm_0
  have s0_0 : evA e_0 (.tmp 0) = _ := hA 0 _ rfl
  have ml_0 : m_0.length = 0 := by rw [hm_0]; rfl
  clear hA hm_0
  refine aw_seq <| at_ <| ar (ro_assign ev_c) rfl <| ae1 (up_m rfl s0_0) ?_; clear s0_0; intro e_1 s0_1
  refine then_n <| aw_seq <| aw_seq <| at_ <| ar (ro_move s0_1) rfl <| ar (ro_call (evL_cons up_h (evL_cons ev_c (evL_cons ev_c evL_nil))) rfl (bWithin_ok _ _ _) qhcf30) rfl <| ar (ro_not up_h) rfl <| ae1 up_h ?_; clear s0_1; intro e_2 s5_2
  refine then_n <| aw_case s5_2 (fun hq_3 => ?_) (fun hq_3 => ?_)
  ·replace hq_3 := bt' hq_3
   refine aw_seq <| at_ <| ar (ro_assign ev_c) rfl <| ae1 up_h ?_; clear s5_2; intro e_4 s2_4
   refine then_n <| aw_ret <| then_r <| ret1 (.inr rfl) (by kernel_rfl) (resV_tmp s2_4) (.ro _ rfl) ?_
   clear s2_4  ml_0
   (unfold sidE; simp_all [unlessE])
  replace hq_3 := bf' hq_3
  refine aw_skip <| then_n <| aw_seq <| at_ <| ar (ro_assign ev_c) rfl <| ae1 up_h ?_; clear s5_2; intro e_5 s2_5
  refine then_n <| aw_ret <| ret1 (.inr rfl) (by kernel_rfl) (resV_tmp s2_5) (.ro _ rfl) ?_
  clear s2_5  ml_0
  (unfold sidE; simp_all [unlessE])
set_option maxRecDepth 100000 in
set_option maxHeartbeats 4000000 in
theorem bIntsY_ok (a b : List Int) (ha : a.length ≤ 1000000000) (hb : b.length ≤ 1000000000) : FnOk Try.prog 26 [.row 1 (a.map iE), .row 1 (b.map iE)] (fun q => q = tbA (decide (a = b))) := by
  refine fnOk_of (fn := Try.f26) 26 (by kernel_rfl) rfl (by kernel_rfl) (Nat.le_of_ble_eq_true rfl) ?_
  intro e_0 m_0 hA hm_0
  have s0_0 : evA e_0 (.tmp 0) = _ := hA 0 _ rfl
  have s1_0 : evA e_0 (.tmp 1) = _ := hA 1 _ rfl
  have ml_0 : m_0.length = 0 := by rw [hm_0]; rfl
  clear hA hm_0
  refine aw_seq <| at_ <| ar (ro_assign ev_c) rfl <| ae2 (up_m rfl s0_0) (up_m rfl s1_0) ?_; clear s0_0 s1_0; intro e_1 s0_1 s1_1
  refine then_n <| aw_seq <| aw_seq <| at_ <| ar (ro_move s0_1) rfl <| ar (ro_eq (ro_len_row up_h rfl y55_sl49.1) (by simp only [lnS] <;> rfl)) rfl ?_
  refine ar (ro_move (u2 rfl s1_1)) rfl <| ar (ro_eq (ro_len_row up_h rfl y55_sl49.1) (by simp only [lnS] <;> rfl)) rfl ?_
  refine ar (ro_neq (u2 rfl up_h) up_h) rfl <| ae3 (up_m rfl (u4 rfl s0_1)) (up_m rfl (u4 rfl s1_1)) up_h ?_; clear s0_1 s1_1; intro e_2 s0_2 s1_2 s10_2
  refine then_n <| aw_case s10_2 (fun hq_3 => ?_) (fun hq_3 => ?_)
  ·replace hq_3 := bnt hq_3
   refine aw_seq <| at_ <| ar (ro_assign ev_c) rfl <| ae1 up_h ?_; clear s0_2 s10_2 s1_2; intro e_4 s4_4
   refine then_n <| aw_ret <| then_r <| ret1 (.inr rfl) (by kernel_rfl) (resV_tmp s4_4) (.ro _ rfl) ?_
   clear s4_4  ml_0
   (have hne : ¬ a = b := (fun hc => absurd (congrArg List.length hc) (by omega)); rw [decide_eq_false hne])
  replace hq_3 := bnf hq_3
  (have hl : a.length = b.length := (by omega))
  refine aw_skip <| then_n <| aw_seq <| aw_seq <| at_ <| ar (ro_assign ev_c) rfl <| ae3 (up_m rfl s0_2) (up_m rfl s1_2) up_h ?_; clear s0_2 s10_2 s1_2; intro e_5 s0_5 s1_5 s5_5
  refine then_n <| aw_block <| aw_loop (S := Int) (fun i e mem => (evA e (.tmp 5) = .v (.int .i64 i)) ∧ (evA e (.tmp 0) = evA e_5 (.tmp 0)) ∧ (evA e (.tmp 1) = evA e_5 (.tmp 1)) ∧ (mem.length = 0) ∧ ((0 ≤ i ∧ i ≤ a.length ∧ a.length = b.length ∧ ∀ j : Nat, j < i → a.getD j default = b.getD j default))) (fun i => (a.length - i).toNat) _ ⟨s5_5, rfl, rfl, ml_0, ?_⟩ ?_
  · (exact ⟨by omega, by omega, hl, fun j hj => by omega⟩)
  · rintro i e_6 m_6 ⟨s5_6, k0_6, k1_6, ml_6, hinv⟩
    have s0_6 := k0_6.trans s0_5
    have s1_6 := k1_6.trans s1_5
    (obtain ⟨p1, p2, p3, p4⟩ := hinv)
    refine aw_seq <| aw_seq <| at_ <| ar (ro_move s5_6) rfl <| ar (ro_move (up_m rfl s0_6)) rfl <| ar (ro_eq (ro_len_row up_h rfl y55_sl49.1) (by simp only [lnS] <;> rfl)) rfl ?_
    refine ar (ro_lss (u2 rfl up_h) up_h) rfl <| ae4 (u4 rfl s0_6) (u4 rfl s1_6) (u4 rfl s5_6) up_h ?_; clear s0_6 s1_6 s5_6; intro e_7 s0_7 s1_7 s5_7 s14_7
    refine then_n <| aw_case s14_7 (fun hq_8 => ?_) (fun hq_8 => ?_)
    ·replace hq_8 := bt hq_8
     refine aw_skip <| then_n <| aw_seq <| aw_block <| aw_seq <| aw_draw 9 (by kernel_rfl) (by kernel_rfl) (by kernel_rfl) (by kernel_rfl) ?_
     refine dr (ro_move s0_7) rfl <| dr (ro_move (up_m rfl s5_7)) rfl <| dr (ro_eq (ro_ix y55_sl49 (up_m rfl up_h) up_h (by omega) (by first | (refine idx_map ?_; first | omega | (simp only [lnS]; omega)) | (refine idx_mapI ?_; first | omega | (simp only [lnS]; omega)) | (refine idx_mapN ?_; first | omega | (simp only [lnS]; omega)) | rfl)) (by simp only [pS, Value.cells, Nat.reduceAdd, iE] <;> rfl)) rfl ?_
     refine dr (ro_eq (ro_ld_ref y55_ty3 rfl up_h (nle rfl)) (by simp only [pS, Value.cells, Nat.reduceAdd, iE] <;> rfl)) rfl ?_
     refine dr (ro_move (u4 rfl s1_7)) rfl <| dr (ro_move (up_m rfl (u4 rfl s5_7))) rfl <| dr (ro_eq (ro_ix y55_sl49 (up_m rfl up_h) up_h (by omega) (by first | (refine idx_map ?_; first | omega | (simp only [lnS]; omega)) | (refine idx_mapI ?_; first | omega | (simp only [lnS]; omega)) | (refine idx_mapN ?_; first | omega | (simp only [lnS]; omega)) | rfl)) (by simp only [pS, Value.cells, Nat.reduceAdd, iE] <;> rfl)) rfl ?_
     refine dr (ro_eq (ro_ld_ref y55_ty3 rfl up_h (nle rfl)) (by simp only [pS, Value.cells, Nat.reduceAdd, iE] <;> rfl)) rfl ?_
     refine dr (ro_neq (u4 rfl up_h) up_h) rfl <| ds_nil <| ae4 (up_m rfl (u8 rfl s0_7)) (up_m rfl (u8 rfl s1_7)) (up_m rfl (u8 rfl s5_7)) up_h ?_; clear s0_7 s14_7 s1_7 s5_7; intro e_9 s0_9 s1_9 s5_9 s25_9
     refine then_n <| aw_case s25_9 (fun hq_10 => ?_) (fun hq_10 => ?_)
     ·replace hq_10 := bnt hq_10
      refine aw_seq <| at_ <| ar (ro_assign ev_c) rfl <| ae1 up_h ?_; clear s0_9 s1_9 s25_9 s5_9; intro e_11 s4_11
      refine then_n <| aw_ret <| block_r <| then_r <| then_r <| block_r <| then_r <| ret1 (.inr rfl) (by kernel_rfl) (resV_tmp s4_11) (.ro _ rfl) ?_
      clear s4_11  ml_6
      (have hne : ¬ a = b := (fun hc => absurd (congrArg (fun l => l.getD i.toNat default) hc) (by assumption)); rw [decide_eq_false hne])
     replace hq_10 := bnf hq_10
     refine aw_skip <| block_n <| then_n <| at_ <| ar (ro_move s5_9) rfl ?_
     (refine ar (ro_add' up_h ev_c ?_) rfl ?_; · (unfold In64; omega))
     refine ar (ro_assign up_h) rfl <| ae3 (up_m rfl (u2 rfl s0_9)) (up_m rfl (u2 rfl s1_9)) up_h ?_; clear s0_9 s1_9 s25_9 s5_9; intro e_12 s0_12 s1_12 s5_12
     refine then_n <| ⟨_, ⟨s5_12, (s0_12.trans s0_5.symm), (s1_12.trans s1_5.symm), ml_6, ?_⟩, ?_⟩
     · (refine ⟨by omega, by omega, p3, fun q hq => ?_⟩; by_cases hj : (q : Int) = i; (rw [show q = i.toNat by omega]; omega); exact p4 q (by omega))
     · ((try dsimp only); omega)
    replace hq_8 := bf hq_8
    refine aw_exit <| then_x <| then_x <| block_hit <| then_n <| aw_seq <| at_ <| ar (ro_assign ev_c) rfl <| ae1 up_h ?_; clear s0_7 s14_7 s1_7 s5_7; intro e_13 s4_13
    refine then_n <| aw_ret <| ret1 (.inr rfl) (by kernel_rfl) (resV_tmp s4_13) (.ro _ rfl) ?_
    clear s4_13  ml_6
    (rw [decide_eq_true (list_same p3 fun j hj => p4 j (by omega))])
end Go.Proofs.Ytonjcljnpcmenaa

