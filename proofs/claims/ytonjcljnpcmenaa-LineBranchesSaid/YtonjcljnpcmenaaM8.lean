/- Texts of this claim, one behind the other: lemmas for the statement. -/
import Derived.Test.YtonjcljnpcmenaaM6
import Derived.Test.YtonjcljnpcmenaaM7
/- Contracts: how many bits a word has; a quotient of two words by one. No conditions on a program. -/
namespace Go.Proofs.Ytonjcljnpcmenaa
open Go Go.RowKit Go.Proofs
set_option linter.unusedSimpArgs false
set_option linter.unusedVariables false

/-- How many bits a number has. -/
def bitN (x : Nat) : Nat := if x = 0 then 0 else Nat.log2 x + 1
/-- A digit of a quotient: what one looks for, Y the divisor of two digits, u what is left, n the next digit. -/
structure Hal (y1 y0 u n : Int) : Prop where
  hy1 : 2147483648 ≤ y1 ∧ y1 < 4294967296
  hy0 : 0 ≤ y0 ∧ y0 < 4294967296
  hu0 : 0 ≤ u
  hu1 : u < y1 * 4294967296 + y0
  hn0 : 0 ≤ n ∧ n < 4294967296
def halQ (y1 y0 u n : Int) : Int := (u * 4294967296 + n) / (y1 * 4294967296 + y0)
theorem Hal.q {y1 y0 u n : Int} (h : Hal y1 y0 u n) : 0 ≤ halQ y1 y0 u n ∧ halQ y1 y0 u n < 4294967296 := by
  obtain ⟨a, b, c, d, e⟩ := h
  refine ⟨Int.ediv_nonneg (by omega) (by omega), ?_⟩
  unfold halQ
  rw [Int.ediv_lt_iff_lt_mul (by omega)]
  omega
theorem hal_mul (q y1 y0 : Int) : q * (y1 * 4294967296 + y0) = q * y1 * 4294967296 + q * y0 := by rw [Int.mul_add, ← Int.mul_assoc]
/-- The guess is not too small: a guess that is too great is made less by one. -/
theorem Hal.less {y1 y0 u n q r : Int} (h : Hal y1 y0 u n) (h1 : q * y1 + r = u) (hq : halQ y1 y0 u n ≤ q) (hc : 4294967296 ≤ q ∨ 4294967296 * r + n < q * y0) : halQ y1 y0 u n ≤ q - 1 := by
  have hb := h.q
  rcases hc with hc | hc
  · omega
  · obtain ⟨a, b, c, d, e⟩ := h
    have h2 : ¬ q ≤ halQ y1 y0 u n := by
      unfold halQ
      rw [Int.le_ediv_iff_mul_le (by omega), hal_mul]
      omega
    omega
theorem Hal.done {y1 y0 u n q r : Int} (h : Hal y1 y0 u n) (h1 : q * y1 + r = u) (hq : halQ y1 y0 u n ≤ q) (hc : q * y0 ≤ 4294967296 * r + n) : q = halQ y1 y0 u n := by
  obtain ⟨a, b, c, d, e⟩ := h
  have h2 : q ≤ halQ y1 y0 u n := by
    unfold halQ
    rw [Int.le_ediv_iff_mul_le (by omega), hal_mul]
    omega
  omega
theorem Hal.far {y1 y0 u n q r : Int} (h : Hal y1 y0 u n) (h1 : q * y1 + r = u) (hq : halQ y1 y0 u n ≤ q) (hq2 : q ≤ 4294967296) (hr : 4294967296 ≤ r) : q = halQ y1 y0 u n := by
  have hb := h.q
  refine h.done h1 hq ?_
  have h2 := h.hy0
  have h3 := h.hn0
  have h4 := Int.mul_le_mul hq2 (show y0 ≤ 4294967295 by omega) (by omega) (by omega)
  omega
theorem Hal.first {y1 y0 u n : Int} (h : Hal y1 y0 u n) : u / y1 * y1 + (u - u / y1 * y1) = u ∧ halQ y1 y0 u n ≤ u / y1 ∧ u / y1 ≤ 4294967297 ∧ 0 ≤ u - u / y1 * y1 ∧ u - u / y1 * y1 < y1 := by
  obtain ⟨a, b, c, d, e⟩ := h
  have hm := Int.mul_ediv_add_emod u y1
  have hm2 : u / y1 * y1 + u % y1 = u := by rw [Int.mul_comm]; exact hm
  have h1 := Int.emod_nonneg u (show y1 ≠ 0 by omega)
  have h2 := Int.emod_lt_of_pos u (show 0 < y1 by omega)
  refine ⟨by omega, ?_, ?_, by omega, by omega⟩
  · rw [Int.le_ediv_iff_mul_le (by omega)]
    have h3 : halQ y1 y0 u n * (y1 * 4294967296 + y0) ≤ u * 4294967296 + n := by
      unfold halQ; exact Int.ediv_mul_le _ (by omega)
    have h4 : 0 ≤ halQ y1 y0 u n := by unfold halQ; exact Int.ediv_nonneg (by omega) (by omega)
    have h5 := Int.mul_nonneg h4 b.1
    rw [hal_mul] at h3
    omega
  · have h3 : u / y1 < 4294967298 := by
      rw [Int.ediv_lt_iff_lt_mul (by omega)]
      omega
    omega
end Go.Proofs.Ytonjcljnpcmenaa

/- Contracts: how many bits a word has. No conditions on a program. -/
namespace Go.Proofs.Ytonjcljnpcmenaa
open Go Go.RowKit Go.Proofs
set_option linter.unusedSimpArgs false
set_option linter.unusedVariables false
end Go.Proofs.Ytonjcljnpcmenaa

/- Contracts: a quotient of two words by one. No conditions on a program. -/
namespace Go.Proofs.Ytonjcljnpcmenaa
open Go Go.RowKit Go.Proofs
set_option linter.unusedSimpArgs false
set_option linter.unusedVariables false

/-- Two words without a bit in common: all bits of the second one are below those of the first one. -/
def OrOk (m n : Int) : Prop := ∃ (a c : Nat), c ≤ 64 ∧ m = ((2 ^ c * a : Nat) : Int) ∧ 0 ≤ n ∧ n < ((2 ^ c : Nat) : Int) ∧ InU64 m ∧ InU64 (m + n)
/-- What a quotient of two words is made of. -/
structure Dv (hi lo y : Int) (s : Nat) (p q2 Y u v : Int) : Prop where
  lo0 : InU64 lo
  hh : 1 ≤ hi ∧ hi < y
  sb : (64 : Int) - (bitN y.toNat : Nat) = s
  s0 : 2 ≤ s ∧ s ≤ 63
  hp : ((2 ^ s : Nat) : Int) = p
  hq2 : ((2 ^ (64 - s) : Nat) : Int) = q2
  hY : y * p = Y
  Yb : 9223372036854775808 ≤ Y ∧ Y < 18446744073709551616
  hu : hi * p + lo / q2 = u
  ub : 0 ≤ u ∧ u < Y
  hv : lo * p % 18446744073709551616 = v
  hip : InU64 (hi * p)
  ok : OrOk (hi * p) (lo / q2)
/-- Both digits of the quotient, and what is left. -/
def dq1 (Y u v : Int) : Int := halQ (Y / 4294967296) (Y % 4294967296) u (v / 4294967296)
def dU (Y u v : Int) : Int := u * 4294967296 + v / 4294967296 - dq1 Y u v * Y
def dq0 (Y u v : Int) : Int := halQ (Y / 4294967296) (Y % 4294967296) (dU Y u v) (v % 4294967296)
def dR (Y u v : Int) : Int := dU Y u v * 4294967296 + v % 4294967296 - dq0 Y u v * Y
theorem Y_two (Y : Int) : Y / 4294967296 * 4294967296 + Y % 4294967296 = Y := by omega
theorem Dv.R {hi lo y : Int} {s : Nat} {p q2 Y u v : Int} (h : Dv hi lo y s p q2 Y u v) : 0 ≤ dR Y u v ∧ dR Y u v < Y := by
  have h1 := h.Yb
  have : dR Y u v = (dU Y u v * 4294967296 + v % 4294967296) % Y := by
    unfold dR dq0 halQ
    rw [Y_two, Int.emod_def _ Y, Int.mul_comm Y]
  rw [this]
  exact ⟨Int.emod_nonneg _ (by omega), Int.emod_lt_of_pos _ (by omega)⟩
theorem Dv.all {hi lo y : Int} {s : Nat} {p q2 Y u v : Int} (h : Dv hi lo y s p q2 Y u v) : dq1 Y u v * 4294967296 + dq0 Y u v = (hi * 18446744073709551616 + lo) / y ∧ dR Y u v / p = (hi * 18446744073709551616 + lo) % y ∧ 0 ≤ p := by
  have hR := h.R
  have hYb := h.Yb
  have hp0 : 0 < p := by
    rw [← h.hp]; exact_mod_cast Nat.pow_pos (by decide)
  have hq0 : 0 < q2 := by
    rw [← h.hq2]; exact_mod_cast Nat.pow_pos (by decide)
  have hpq : q2 * p = 18446744073709551616 := by
    rw [← h.hp, ← h.hq2, ← Int.natCast_mul, ← Nat.pow_add, show 64 - s + s = 64 by have := h.s0; omega]; rfl
  have hlo := h.lo0
  unfold InU64 at hlo
  -- the low word, moved
  have hl1 : lo * p = lo / q2 * 18446744073709551616 + lo % q2 * p := by
    have := Int.mul_ediv_add_emod lo q2
    calc lo * p = (q2 * (lo / q2) + lo % q2) * p := by rw [this]
      _ = lo / q2 * (q2 * p) + lo % q2 * p := by rw [Int.add_mul, Int.mul_comm q2, Int.mul_assoc]
      _ = _ := by rw [hpq]
  have hl2 : 0 ≤ lo % q2 * p := Int.mul_nonneg (Int.emod_nonneg _ (by omega)) (by omega)
  have hl3 : lo % q2 * p < 18446744073709551616 := by
    rw [← hpq]; exact Int.mul_lt_mul_of_pos_right (Int.emod_lt_of_pos _ hq0) hp0
  have hv := h.hv
  have hu := h.hu
  have hD : (hi * 18446744073709551616 + lo) * p = u * 18446744073709551616 + v := by
    rw [Int.add_mul, Int.mul_assoc, Int.mul_comm 18446744073709551616 p, ← Int.mul_assoc]
    omega
  have e1 : (hi * 18446744073709551616 + lo) * p = (dq1 Y u v * 4294967296 + dq0 Y u v) * Y + dR Y u v := by
    rw [hD, Int.add_mul, Int.mul_assoc, Int.mul_comm 4294967296 Y, ← Int.mul_assoc]
    unfold dR dU
    omega
  have e2 : (hi * 18446744073709551616 + lo) / y = dq1 Y u v * 4294967296 + dq0 Y u v := by
    have : (hi * 18446744073709551616 + lo) * p / (y * p) = (hi * 18446744073709551616 + lo) / y := Int.mul_ediv_mul_of_pos_left _ _ hp0
    rw [← this, h.hY, e1, Int.add_comm, Int.add_mul_ediv_right _ _ (by omega), Int.ediv_eq_zero_of_lt hR.1 hR.2, Int.zero_add]
  refine ⟨e2.symm, ?_, by omega⟩
  have e3 : dR Y u v = (hi * 18446744073709551616 + lo) % y * p := by
    have : (hi * 18446744073709551616 + lo) * p % (y * p) = (hi * 18446744073709551616 + lo) % y * p := by
      rw [Int.mul_comm _ p, Int.mul_comm y p, Int.mul_emod_mul_of_pos _ _ hp0, Int.mul_comm]
    rw [← this, h.hY, e1, Int.add_comm, Int.add_mul_emod_self_right, Int.emod_eq_of_lt hR.1 hR.2]
  rw [e3, Int.mul_ediv_cancel _ (by omega)]
end Go.Proofs.Ytonjcljnpcmenaa

/- Contracts: a quotient of two words by one, walked. No conditions on a program. -/
namespace Go.Proofs.Ytonjcljnpcmenaa
open Go Go.RowKit Go.Proofs
set_option linter.unusedSimpArgs false
set_option linter.unusedVariables false
end Go.Proofs.Ytonjcljnpcmenaa

/- Contracts of chapter 1: whether the program is awake. No conditions on a program. -/
namespace Go.Proofs.Ytonjcljnpcmenaa
open Go Go.RowKit Go.Proofs
set_option linter.unusedSimpArgs false
set_option linter.unusedVariables false
theorem y27_az26 : (Try.prog.info? 26).bind (·.zero) = some (.agg #[.string ByteArray.empty, .slice none 0 0, .slice none 0 0, .slice none 0 0]) := by kernel_rfl
theorem y27_az39 : (Try.prog.info? 39).bind (·.zero) = some (.agg #[.int .i64 0, .int .i64 0]) := by kernel_rfl
theorem y27_bz85 : (Try.prog.info? 85).bind (·.zero) = some (.agg #[.int .i64 0, .int .i64 0]) := by kernel_rfl
theorem y27_bu85 : Try.prog.underlying 85 = some (.array 2 3) := by kernel_rfl
theorem y27_bp85 : (Try.prog.info? 3).map (·.size) = some 1 := by kernel_rfl
theorem y27_bz26 : (Try.prog.info? 26).bind (·.zero) = some (.agg #[.string ByteArray.empty, .slice none 0 0, .slice none 0 0, .slice none 0 0]) := by kernel_rfl
theorem y27_bu26 : Try.prog.underlying 26 = some (.struct (fsOf Try.prog 26)) := by kernel_rfl
theorem y27_bp26 : ∀ w, ((fsOf Try.prog 26).mapM fun f => Prod.mk f.offset <$> sizeOf f.type : Sem (Array (Nat × Nat))).run Try.prog w = .ok (#[(0, 1), (1, 1), (2, 1), (3, 1)]) w := fun _ => by kernel_rfl
theorem y27_bz28 : (Try.prog.info? 28).bind (·.zero) = some (.agg #[.int .i64 0, .int .i64 0, .int .i64 0]) := by kernel_rfl
theorem y27_bu28 : Try.prog.underlying 28 = some (.struct (fsOf Try.prog 28)) := by kernel_rfl
theorem y27_bp28 : ∀ w, ((fsOf Try.prog 28).mapM fun f => Prod.mk f.offset <$> sizeOf f.type : Sem (Array (Nat × Nat))).run Try.prog w = .ok (#[(0, 1), (1, 1), (2, 1)]) w := fun _ => by kernel_rfl
theorem y27_bz39 : (Try.prog.info? 39).bind (·.zero) = some (.agg #[.int .i64 0, .int .i64 0]) := by kernel_rfl
theorem y27_bu39 : Try.prog.underlying 39 = some (.struct (fsOf Try.prog 39)) := by kernel_rfl
theorem y27_bp39 : ∀ w, ((fsOf Try.prog 39).mapM fun f => Prod.mk f.offset <$> sizeOf f.type : Sem (Array (Nat × Nat))).run Try.prog w = .ok (#[(0, 1), (1, 1)]) w := fun _ => by kernel_rfl
theorem y27_bz70 : (Try.prog.info? 70).bind (·.zero) = some (.agg #[.int .i64 0, .int .i64 0, .int .i64 0, .int .i64 0]) := by kernel_rfl
theorem y27_bu70 : Try.prog.underlying 70 = some (.struct (fsOf Try.prog 70)) := by kernel_rfl
theorem y27_bp70 : ∀ w, ((fsOf Try.prog 70).mapM fun f => Prod.mk f.offset <$> sizeOf f.type : Sem (Array (Nat × Nat))).run Try.prog w = .ok (#[(0, 1), (1, 1), (2, 2)]) w := fun _ => by kernel_rfl
theorem y27_bz87 : (Try.prog.info? 87).bind (·.zero) = some (.agg #[.int .i64 0, .int .i64 0]) := by kernel_rfl
theorem y27_bu87 : Try.prog.underlying 87 = some (.struct (fsOf Try.prog 87)) := by kernel_rfl
theorem y27_bp87 : ∀ w, ((fsOf Try.prog 87).mapM fun f => Prod.mk f.offset <$> sizeOf f.type : Sem (Array (Nat × Nat))).run Try.prog w = .ok (#[(0, 1), (1, 1)]) w := fun _ => by kernel_rfl
theorem y27_hcf23 : ∀ args w, (callFunc 23 args).run Try.prog w = .ok (.enter 23 args) w := fun _ _ => by kernel_rfl
theorem y27_hcf41 : ∀ args w, (callFunc 41 args).run Try.prog w = .ok (.enter 41 args) w := fun _ _ => by kernel_rfl
theorem y27_hcf67 : ∀ args w, (callFunc 67 args).run Try.prog w = .ok (.enter 67 args) w := fun _ _ => by kernel_rfl
theorem y27_hcf68 : ∀ args w, (callFunc 68 args).run Try.prog w = .ok (.enter 68 args) w := fun _ _ => by kernel_rfl
theorem y27_sl22 : SlIs Try.prog 22 70 4 32 (.agg #[.int .i64 0, .int .i64 0, .int .i64 0, .int .i64 0]) := ⟨by kernel_rfl, by kernel_rfl, by kernel_rfl⟩
theorem y27_sl23 : SlIs Try.prog 23 87 2 16 (.agg #[.int .i64 0, .int .i64 0]) := ⟨by kernel_rfl, by kernel_rfl, by kernel_rfl⟩
theorem y27_sz26 : (Try.prog.info? 26).map (·.size) = some 4 := by kernel_rfl
theorem y27_sz39 : (Try.prog.info? 39).map (·.size) = some 2 := by kernel_rfl
theorem y27_ty26 : TyIs Try.prog 26 true 4 := ⟨by kernel_rfl, by kernel_rfl⟩
theorem y27_ty39 : TyIs Try.prog 39 true 2 := ⟨by kernel_rfl, by kernel_rfl⟩

def lin0 : Lin := ⟨⟨#[115, 104, 111, 114, 116]⟩, [⟨0, 0, 0, 0⟩, ⟨0, 100, 0, 0⟩, ⟨200, 100, 0, 0⟩], [⟨10000, 0⟩, ⟨10000, 100⟩], []⟩
set_option maxRecDepth 100000 in
set_option maxHeartbeats 1000000 in
theorem lin0_ok : FnOk Try.prog 67 [] (fun q => q = lnA lin0) := by
  refine fnOk_of (fn := Try.f67) 9 (by kernel_rfl) rfl (by kernel_rfl) (Nat.le_of_ble_eq_true rfl) ?_
  intro e_0 m_0 hA hm_0
  have ml_0 : m_0.length = 0 := by rw [hm_0]; rfl
  clear hA hm_0
  refine aw_seq <| at_ <| al_stm (st_alloc y27_az26 rfl ml_0) trivial rfl (fun m_1 hm_1 => ?_)
  have mo0_1 := m_push hm_1 ml_0
  simp only [pS, Value.cells, Nat.reduceAdd] at mo0_1
  have ml_1 := m_push_l hm_1 ml_0
  have ml_1 : _ = 1 := ml_1
  clear hm_1
  refine ae1 up_h ?_; intro e_2 s0_2
  refine then_n <| aw_seq <| at_ <| ar (ro_build evP_nil y27_bz70 y27_bu70 y27_bp70 rfl) rfl ?_
  refine ar (ro_build (evP_cons ev_c evP_nil) y27_bz70 y27_bu70 y27_bp70 rfl) rfl ?_
  refine ar (ro_build (evP_cons ev_c (evP_cons ev_c evP_nil)) y27_bz70 y27_bu70 y27_bp70 rfl) rfl ?_
  refine ar (ro_lit y27_sl22 (evP_cons (u2 rfl up_h) (evP_cons (up_m rfl up_h) (evP_cons up_h evP_nil))) rfl rfl rfl rfl) rfl <| ar (ro_build (evP_cons ev_c evP_nil) y27_bz87 y27_bu87 y27_bp87 rfl) rfl ?_
  refine ar (ro_build (evP_cons ev_c (evP_cons ev_c evP_nil)) y27_bz87 y27_bu87 y27_bp87 rfl) rfl ?_
  refine ar (ro_lit y27_sl23 (evP_cons (up_m rfl up_h) (evP_cons up_h evP_nil)) rfl rfl rfl rfl) rfl <| ar (ro_build (evP_cons ev_c (evP_cons (up_m rfl (u2 rfl up_h)) (evP_cons up_h evP_nil))) y27_bz26 y27_bu26 y27_bp26 rfl) rfl ?_
  refine al_stm (st_store (u8 rfl s0_2) up_h rfl rfl mo0_1 y27_sz26 rfl (nle rfl)) trivial rfl (fun m_3 hm_3 => ?_)
  have mo0_3 := m_set hm_3 mo0_1
  simp only [pS, Value.cells, Nat.reduceAdd] at mo0_3
  have ml_3 := m_set_l hm_3 ml_1
  clear hm_3 mo0_1
  refine ae1 (up_n (u8 rfl s0_2)) ?_; clear s0_2; intro e_4 s0_4
  refine then_n <| aw_ret <| ret1 (.inr rfl) (by kernel_rfl) (resV_cell s0_4 mo0_3 y27_ty26 (nle rfl) (by simp)) (vw_r (vw_agg (vwl_cons (.ro _ rfl) (vwl_cons (.ro _ rfl) (vwl_cons (.ro _ rfl) (vwl_cons (.nil 3) vwl_nil)))))) ?_
  clear s0_4 mo0_3 ml_3
  rfl
theorem lin0_sho : Sho lin0 := ⟨by decide, by decide, by decide, by decide, by intro s hs; cases hs⟩
theorem lin0_good : (linM lin0).2 = 0 := by kernel_rfl
theorem len0_ok : FnOk Try.prog 41 [lnA lin0] (fun q => q = .tuple [mA 20000, mA 0]) :=
  (lengthOf_good lin0 lin0_sho lin0_good).mono fun q h => h.trans (by kernel_rfl)
theorem lim0_ok : FnOk Try.prog 23 [lnA lin0, mA 1000, mA 1] (fun q => q = .tuple [mA 745250000, mA 0]) :=
  (limitAt_good lin0 lin0_sho lin0_good 1000 1 (fun hs n hn => by
    obtain rfl : n = 1 := by have : lin0.js.length = 3 := rfl
                             omega
    exact limit_low lin0 (rgt_of lin0_good) 1000 (by decide) 1 (by decide) (by decide))).mono fun q h => h.trans (by kernel_rfl)
theorem dev0_ok : FnOk Try.prog 68 [lnA lin0, vehA 10000 60 2500, .agg [mA 2500, mA 1]] (fun q => q = .tuple [.agg [mA (-38), mA (-37)], mA 0]) :=
  (deviationAt_good lin0 lin0_sho lin0_good 10000 60 2500 2500 1 (by decide) (by decide)).mono fun q h => h.trans (by kernel_rfl)
set_option maxRecDepth 100000 in
set_option maxHeartbeats 4000000 in
theorem awake_ok : FnOk Try.prog 12 [] (fun q => q = tbA true) := by
  refine fnOk_of (fn := Try.f12) 47 (by kernel_rfl) rfl (by kernel_rfl) (Nat.le_of_ble_eq_true rfl) ?_
  intro e_0 m_0 hA hm_0
  have ml_0 : m_0.length = 0 := by rw [hm_0]; rfl
  clear hA hm_0
  refine aw_seq <| at_ <| ar (ro_assign ev_c) rfl <| ae0 ?_; intro e_1
  refine then_n <| aw_seq <| at_ <| ar (ro_call evL_nil rfl (lin0_ok) y27_hcf67) rfl <| ar (ro_call (evL_cons up_h evL_nil) rfl (len0_ok) y27_hcf41) rfl <| ar (ro_move up_h) rfl <| ar (ro_extract up_h rfl) rfl <| ar (ro_extract (up_m rfl up_h) rfl) rfl <| ar (ro_assign (up_m rfl up_h)) rfl <| ar (ro_assign (up_m rfl up_h)) rfl <| ae2 (up_m rfl up_h) up_h ?_; intro e_2 s1_2 s2_2
  refine then_n <| aw_seq <| at_ <| ar (ro_call evL_nil rfl (lin0_ok) y27_hcf67) rfl <| ar (ro_call (evL_cons up_h (evL_cons ev_c (evL_cons ev_c evL_nil))) rfl (lim0_ok) y27_hcf23) rfl <| ar (ro_move up_h) rfl <| ar (ro_extract up_h rfl) rfl <| ar (ro_extract (up_m rfl up_h) rfl) rfl <| ar (ro_assign (up_m rfl up_h)) rfl <| ar (ro_assign (up_m rfl up_h)) rfl <| ae4 (up_m rfl (u2 rfl (u4 rfl s1_2))) (up_m rfl (u2 rfl (u4 rfl s2_2))) (up_m rfl up_h) up_h ?_; clear s1_2 s2_2; intro e_3 s1_3 s2_3 s3_3 s4_3
  refine then_n <| aw_seq <| at_ <| ar (ro_call evL_nil rfl (lin0_ok) y27_hcf67) rfl <| ar (ro_build (evP_cons ev_c (evP_cons ev_c (evP_cons ev_c evP_nil))) y27_bz28 y27_bu28 y27_bp28 rfl) rfl ?_
  refine ar (ro_buildA (evP_cons ev_c (evP_cons ev_c evP_nil)) y27_bz85 y27_bu85 y27_bp85 rfl) rfl ?_
  refine ar (ro_call (evL_cons (u2 rfl up_h) (evL_cons (up_m rfl up_h) (evL_cons up_h evL_nil))) rfl (dev0_ok) y27_hcf68) rfl <| ar (ro_move up_h) rfl <| ar (ro_extract up_h rfl) rfl <| ar (ro_extract (up_m rfl up_h) rfl) rfl <| al_stm (st_alloc y27_az39 rfl ml_0) trivial rfl (fun m_4 hm_4 => ?_)
  have mo0_4 := m_push hm_4 ml_0
  simp only [pS, Value.cells, Nat.reduceAdd] at mo0_4
  have ml_4 := m_push_l hm_4 ml_0
  have ml_4 : _ = 1 := ml_4
  clear hm_4
  refine al_stm (st_store up_h (u2 rfl up_h) rfl rfl mo0_4 y27_sz39 rfl (nle rfl)) trivial rfl (fun m_5 hm_5 => ?_)
  have mo0_5 := m_set hm_5 mo0_4
  simp only [pS, Value.cells, Nat.reduceAdd] at mo0_5
  have ml_5 := m_set_l hm_5 ml_4
  clear hm_5 mo0_4
  refine ar (ro_assign (up_n (up_m rfl up_h))) rfl <| ae6 (up_m rfl (up_n (u8 rfl s1_3))) (up_m rfl (up_n (u8 rfl s2_3))) (up_m rfl (up_n (u8 rfl s3_3))) (up_m rfl (up_n (u8 rfl s4_3))) (up_m rfl (up_n up_h)) up_h ?_; clear s1_3 s2_3 s3_3 s4_3; intro e_6 s1_6 s2_6 s3_6 s4_6 s5_6 s6_6
  refine then_n <| aw_seq <| at_ <| ar (ro_move s2_6) rfl <| ar (ro_eql up_h ev_c) rfl ?_
  refine ar (ro_move up_h) rfl <| al_case up_h (fun hb_7 hq_7 => ?_) (fun hb_7 hq_7 => ?_)
  ·replace hq_7 := bt hq_7
   refine al_ro' (ro_move (up_m rfl (u2 rfl s1_6))) ⟨_, rfl, hb_7⟩ rfl ?_
   refine al_ro' (ro_eql up_h ev_c) ⟨_, rfl, (up_m rfl hb_7)⟩ rfl ?_
   refine ar (ro_pickT (u2 rfl hb_7) up_h) rfl <| ar (ro_move up_h) rfl <| al_case up_h (fun hb_8 hq_8 => ?_) (fun hb_8 hq_8 => ?_)
   ·replace hq_8 := bt hq_8
    refine al_ro' (ro_move (up_m rfl (u2 rfl (u4 rfl s4_6)))) ⟨_, rfl, hb_8⟩ rfl ?_
    refine al_ro' (ro_eql up_h ev_c) ⟨_, rfl, (up_m rfl hb_8)⟩ rfl ?_
    refine ar (ro_pickT (u2 rfl hb_8) up_h) rfl <| ar (ro_move up_h) rfl <| al_case up_h (fun hb_9 hq_9 => ?_) (fun hb_9 hq_9 => ?_)
    ·replace hq_9 := bt hq_9
     refine al_ro' (ro_move (up_m rfl (u2 rfl (u8 rfl s3_6)))) ⟨_, rfl, hb_9⟩ rfl ?_
     refine al_ro' (ro_eql up_h ev_c) ⟨_, rfl, (up_m rfl hb_9)⟩ rfl ?_
     refine ar (ro_pickT (u2 rfl hb_9) up_h) rfl <| ar (ro_move up_h) rfl <| al_case up_h (fun hb_10 hq_10 => ?_) (fun hb_10 hq_10 => ?_)
     ·replace hq_10 := bt hq_10
      refine al_ro' (ro_move (up_m rfl (u2 rfl (u4 rfl (u8 rfl s6_6))))) ⟨_, rfl, hb_10⟩ rfl ?_
      refine al_ro' (ro_eql up_h ev_c) ⟨_, rfl, (up_m rfl hb_10)⟩ rfl ?_
      refine ar (ro_pickT (u2 rfl hb_10) up_h) rfl <| ar (ro_move up_h) rfl <| al_case up_h (fun hb_11 hq_11 => ?_) (fun hb_11 hq_11 => ?_)
      ·replace hq_11 := bt hq_11
       refine al_ro' (ro_eq (ro_ld_ptr y27_ty39 rfl mo0_5 (up_m rfl (u2 rfl (u16 rfl s5_6))) (nle rfl)) (by simp only [pS, Value.cells, Nat.reduceAdd] <;> rfl)) ⟨_, rfl, hb_11⟩ rfl ?_
       refine al_ro' (ro_build (evP_cons ev_c (evP_cons ev_c evP_nil)) y27_bz39 y27_bu39 y27_bp39 rfl) ⟨_, rfl, (up_m rfl hb_11)⟩ rfl ?_
       refine al_ro' (ro_aeql (up_m rfl up_h) up_h (xs := [.int .i64 (-38), .int .i64 (-37)]) (ys := [.int .i64 (-38), .int .i64 (-37)]) (b := true) ⟨rfl, by kernel_rfl, fun _ => by kernel_rfl⟩) ⟨_, rfl, (u2 rfl hb_11)⟩ rfl ?_
       refine ar (ro_pickT (up_m rfl (u2 rfl hb_11)) up_h) rfl <| ar (ro_assign up_h) rfl <| ae1 up_h ?_; clear hb_10 hb_11 hb_7 hb_8 hb_9 s1_6 s2_6 s3_6 s4_6 s5_6 s6_6; intro e_12 s0_12
       refine then_n <| aw_ret <| ret1 (.inr rfl) (by kernel_rfl) (resV_tmp s0_12) (.ro _ rfl) ?_
       clear s0_12 mo0_5 ml_5
       rfl
      · replace hq_11 := bf hq_11; exfalso; omega
     · replace hq_10 := bf hq_10; exfalso; omega
    · replace hq_9 := bf hq_9; exfalso; omega
   · replace hq_8 := bf hq_8; exfalso; omega
  · replace hq_7 := bf hq_7; exfalso; omega
end Go.Proofs.Ytonjcljnpcmenaa

/- Contracts of chapter 1: the limit at a joint, all limits. No conditions on a program. -/
namespace Go.Proofs.Ytonjcljnpcmenaa
open Go Go.RowKit Go.Proofs
set_option linter.unusedSimpArgs false
set_option linter.unusedVariables false
end Go.Proofs.Ytonjcljnpcmenaa

/- Plain: numbers as digits to the base 10^9. No program in sight. -/
namespace Go.Proofs.Ytonjcljnpcmenaa
open Go Go.RowKit Go.Proofs
set_option linter.unusedSimpArgs false
set_option linter.unusedVariables false

def valD : List Int → Int
  | [] => 0
  | d :: ds => d + 1000000000 * valD ds
def GD (ds : List Int) : Prop := ∀ d ∈ ds, 0 ≤ d ∧ d < 1000000000
def digN (n : Nat) : List Int := if h : n = 0 then [] else ((n % 1000000000 : Nat) : Int) :: digN (n / 1000000000)
termination_by n
decreasing_by omega
theorem digN_0 : digN 0 = [] := by rw [digN]; simp
theorem digN_s {n : Nat} (h : n ≠ 0) : digN n = ((n % 1000000000 : Nat) : Int) :: digN (n / 1000000000) := by rw [digN]; simp [h]
theorem digN_val : ∀ n : Nat, valD (digN n) = n := by
  intro n
  induction n using Nat.strongRecOn with
  | ind n ih =>
    by_cases h : n = 0
    · subst h; rw [digN_0]; rfl
    · rw [digN_s h, valD, ih _ (by omega)]; omega
theorem digN_gd : ∀ n : Nat, GD (digN n) := by
  intro n
  induction n using Nat.strongRecOn with
  | ind n ih =>
    by_cases h : n = 0
    · subst h; rw [digN_0]; intro d hd; cases hd
    · rw [digN_s h]
      intro d hd
      rcases List.mem_cons.1 hd with rfl | hd
      · omega
      · exact ih _ (by omega) d hd
theorem GD.tail {d : Int} {ds : List Int} (h : GD (d :: ds)) : GD ds := fun x hx => h x (List.mem_cons_of_mem _ hx)
theorem valD_nn : ∀ {ds : List Int}, GD ds → 0 ≤ valD ds
  | [], _ => by decide
  | d :: ds, h => by have := valD_nn h.tail; have := h d (List.mem_cons_self ..); rw [valD]; omega
theorem valD_app : ∀ (a b : List Int), valD (a ++ b) = valD a + 1000000000 ^ a.length * valD b
  | [], b => by simp [valD]
  | d :: a, b => by
    rw [List.cons_append, valD, valD, valD_app a b, List.length_cons, Int.pow_succ, Int.mul_add, ← Int.mul_assoc, Int.mul_comm (1000000000 ^ a.length) 1000000000]
    omega
theorem valD_zero : ∀ {ds : List Int}, (∀ d ∈ ds, d = 0) → valD ds = 0
  | [], _ => rfl
  | d :: ds, h => by rw [valD, h d (List.mem_cons_self ..), valD_zero fun x hx => h x (List.mem_cons_of_mem _ hx)]; rfl
theorem GD.at {ds : List Int} (h : GD ds) (i : Nat) : 0 ≤ ds.getD i default ∧ ds.getD i default < 1000000000 := by
  rw [List.getD_eq_getElem?_getD]
  by_cases hi : i < ds.length
  · rw [List.getElem?_eq_getElem hi]; exact h _ (List.getElem_mem hi)
  · rw [List.getElem?_eq_none (by omega)]; exact ⟨by decide, by decide⟩
theorem GD.take {ds : List Int} (h : GD ds) (n : Nat) : GD (ds.take n) := fun d hd => h d (List.mem_of_mem_take hd)
theorem GD.set {ds : List Int} (h : GD ds) (n : Nat) {v : Int} (hv : 0 ≤ v ∧ v < 1000000000) : GD (ds.set n v) := fun d hd => by
  rcases List.mem_or_eq_of_mem_set hd with hd | rfl
  · exact h d hd
  · exact hv
theorem GD.app {a b : List Int} (h : GD a) (k : GD b) : GD (a ++ b) := fun d hd => (List.mem_append.1 hd).elim (h d) (k d)
theorem GD.one {v : Int} (hv : 0 ≤ v ∧ v < 1000000000) : GD [v] := fun d hd => by rw [List.mem_singleton.1 hd]; exact hv
theorem GD.nil : GD [] := fun d hd => by cases hd
theorem GD.rep (n : Nat) : GD (List.replicate n 0) := fun d hd => by rw [(List.mem_replicate.1 hd).2]; exact ⟨by decide, by decide⟩
theorem valD_set : ∀ {ds : List Int} {k : Nat} (v : Int), k < ds.length → valD (ds.set k v) = valD ds + (v - ds.getD k default) * 1000000000 ^ k
  | d :: ds, 0, v, _ => by simp [valD]; omega
  | d :: ds, k + 1, v, h => by
    have := valD_set (ds := ds) (k := k) v (by simpa using h)
    rw [List.set_cons_succ, valD, valD, this, List.getD_cons_succ, Int.pow_succ, ← Int.mul_assoc, Int.mul_add, Int.mul_comm _ 1000000000]
    omega
theorem valD_take {ds : List Int} {k : Nat} (h : k < ds.length) : valD (ds.take (k + 1)) = valD (ds.take k) + ds.getD k default * 1000000000 ^ k := by
  rw [List.take_add_one, List.getElem?_eq_getElem h, Option.toList_some, valD_app, List.length_take, Nat.min_eq_left (by omega), valD, valD, Int.mul_zero, Int.add_zero, List.getD_eq_getElem?_getD, List.getElem?_eq_getElem h, Int.mul_comm]; rfl
theorem valD_rep (n : Nat) : valD (List.replicate n 0) = 0 := valD_zero fun d hd => (List.mem_replicate.1 hd).2
theorem valD_lt : ∀ {ds : List Int}, GD ds → valD ds < 1000000000 ^ ds.length
  | [], _ => by decide
  | d :: ds, h => by
    have h1 := valD_lt h.tail
    have h2 := h d (List.mem_cons_self ..)
    rw [valD, List.length_cons, Int.pow_succ]
    omega
/-- How long a number is. -/
theorem digN_len {n : Nat} : ∀ {k : Nat}, n < 1000000000 ^ k → (digN n).length ≤ k := by
  induction n using Nat.strongRecOn with
  | ind n ih =>
    intro k h
    by_cases h0 : n = 0
    · subst h0; rw [digN_0]; simp
    · match k, h with
      | 0, h => simp at h; omega
      | k + 1, h =>
        rw [digN_s h0, List.length_cons]
        have := ih (n / 1000000000) (by omega) (k := k) (by rw [Nat.pow_succ] at h; omega)
        omega
/-- A product, digit by digit: what is so far, at digit k of the second one for digit i of the first one, with a carry. -/
structure WM (a b xs : List Int) (i k : Nat) (c : Int) : Prop where
  len : xs.length = a.length + b.length + 1
  gd : GD xs
  z : ∀ q : Nat, i + b.length ≤ q → xs.getD q default = 0
  cb : 0 ≤ c ∧ c < 1000000000
  v : valD xs + c * 1000000000 ^ (i + k) = valD (a.take i) * valD b + a.getD i default * valD (b.take k) * 1000000000 ^ i
theorem getD_set_ne {ds : List Int} {i j : Nat} (h : i ≠ j) (v : Int) : (ds.set i v).getD j default = ds.getD j default := by
  rw [List.getD_eq_getElem?_getD, List.getElem?_set_ne h, ← List.getD_eq_getElem?_getD]
theorem WM.first {a b : List Int} : WM a b (List.replicate (a.length + b.length + 1) 0) 0 0 0 := by
  refine ⟨by simp, GD.rep _, fun q _ => ?_, ⟨by decide, by decide⟩, ?_⟩
  · rw [List.getD_eq_getElem?_getD, List.getElem?_replicate]; split <;> rfl
  · rw [valD_rep]; simp [valD]
theorem WM.bd {a b xs : List Int} {i k : Nat} {c : Int} (h : WM a b xs i k c) (ha : GD a) (hb : GD b) : 0 ≤ a.getD i default * b.getD k default ∧ 0 ≤ xs.getD (i + k) default + a.getD i default * b.getD k default + c ∧ xs.getD (i + k) default + a.getD i default * b.getD k default + c ≤ 999999999999999999 := by
  have h1 := ha.at i
  have h2 := hb.at k
  have h3 := h.gd.at (i + k)
  have h4 := h.cb
  have m1 := Int.mul_nonneg h1.1 h2.1
  have m2 := Int.mul_le_mul (show a.getD i default ≤ 999999999 by omega) (show b.getD k default ≤ 999999999 by omega) h2.1 (by omega)
  omega
theorem WM.step {a b xs : List Int} {i k : Nat} {c s : Int} (h : WM a b xs i k c) (ha : GD a) (hb : GD b) (hi : i < a.length) (hk : k < b.length) (hs : s = xs.getD (i + k) default + a.getD i default * b.getD k default + c) : WM a b (xs.set (i + k) (s % 1000000000)) i (k + 1) (s / 1000000000) := by
  have hbd := h.bd ha hb
  rw [← hs] at hbd
  refine ⟨by rw [List.length_set]; exact h.len, h.gd.set _ (by omega), fun q hq => ?_, by omega, ?_⟩
  · rw [getD_set_ne (by omega)]; exact h.z q hq
  · rw [valD_set _ (by rw [h.len]; omega), valD_take hk, Int.mul_add, Int.add_mul, ← Int.add_assoc, ← h.v, ← Nat.add_assoc, Int.pow_succ]
    have e1 : a.getD i default * (b.getD k default * 1000000000 ^ k) * 1000000000 ^ i = a.getD i default * b.getD k default * 1000000000 ^ (i + k) := by
      rw [Int.pow_add, Int.mul_assoc, Int.mul_assoc, Int.mul_assoc, Int.mul_comm (1000000000 ^ i)]
    rw [e1]
    generalize (1000000000 : Int) ^ (i + k) = P
    have e2 : s / 1000000000 * (P * 1000000000) = (s - s % 1000000000) * P := by
      rw [Int.mul_comm P, ← Int.mul_assoc, show s / 1000000000 * 1000000000 = s - s % 1000000000 by omega]
    rw [e2, hs, Int.sub_mul, Int.sub_mul, Int.add_mul, Int.add_mul]
    omega
theorem WM.next {a b xs : List Int} {i : Nat} {c : Int} (h : WM a b xs i b.length c) (hi : i < a.length) : WM a b (xs.set (i + b.length) (xs.getD (i + b.length) default + c)) (i + 1) 0 0 := by
  have hz := h.z (i + b.length) (Nat.le_refl _)
  refine ⟨by rw [List.length_set]; exact h.len, h.gd.set _ (by rw [hz, Int.zero_add]; exact h.cb), fun q hq => ?_, ⟨by decide, by decide⟩, ?_⟩
  · rw [getD_set_ne (by omega)]; exact h.z q (by omega)
  · have hv := h.v
    rw [List.take_length] at hv
    rw [valD_set _ (by rw [h.len]; omega), hz, valD_take hi, Int.add_mul, show (0 : Int) + c - 0 = c by omega, hv]
    simp only [List.take_zero, valD, Int.mul_zero, Int.zero_mul, Int.add_zero]
    rw [Int.mul_assoc, Int.mul_assoc, Int.mul_comm (1000000000 ^ i)]
theorem WM.done {a b xs : List Int} (h : WM a b xs a.length 0 0) : valD xs = valD a * valD b := by
  have hv := h.v
  simp only [List.take_zero, valD, Int.mul_zero, Int.zero_mul, Int.add_zero, List.take_length] at hv
  exact hv
end Go.Proofs.Ytonjcljnpcmenaa

/- Contracts: wide numbers, made and multiplied. No conditions on a program. -/
namespace Go.Proofs.Ytonjcljnpcmenaa
open Go Go.RowKit Go.Proofs
set_option linter.unusedSimpArgs false
set_option linter.unusedVariables false
end Go.Proofs.Ytonjcljnpcmenaa

