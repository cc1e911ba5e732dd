/- Walks: roots. -/
import Derived.Test.YtdbglpaejmhbjaaDoorV1
import Derived.Test.YtdbglpaejmhbjaaDoorP1
namespace Go.Proofs.YtdbglpaejmhbjaaDoor
open Go Go.RowKit Go.Proofs
set_option linter.unusedSimpArgs false
set_option linter.unusedVariables false

/-- The greatest number up to a bound whose square is at most n. -/
def rootN (n : Nat) : Nat → Nat
  | 0 => 0
  | k + 1 => if (k + 1) * (k + 1) ≤ n then k + 1 else rootN n k
def rootP (n : Int) : Int := rootN n.toNat n.toNat
theorem rootN_le (n : Nat) : ∀ k, rootN n k * rootN n k ≤ n
  | 0 => by simp [rootN]
  | k + 1 => by
    simp only [rootN]
    split
    · assumption
    · exact rootN_le n k
theorem rootN_lt (n : Nat) : ∀ k, n < (k + 1) * (k + 1) → n < (rootN n k + 1) * (rootN n k + 1)
  | 0, h => by simpa [rootN] using h
  | k + 1, h => by
    simp only [rootN]
    split
    · exact h
    · exact rootN_lt n k (by omega)
theorem root_spec {n : Int} (h : 0 ≤ n) : 0 ≤ rootP n ∧ rootP n * rootP n ≤ n ∧ n < (rootP n + 1) * (rootP n + 1) := by
  obtain ⟨m, rfl⟩ := Int.eq_ofNat_of_zero_le h
  unfold rootP
  have h1 := rootN_le m m
  have h2 := rootN_lt m m (by have : m * 1 ≤ m * (m + 1) := Nat.mul_le_mul_left m (by omega); have : (m + 1) * (m + 1) = m * (m + 1) + (m + 1) := by rw [Nat.add_mul]; omega
                              omega)
  simp only [Int.toNat_natCast]
  refine ⟨by omega, by exact_mod_cast h1, by exact_mod_cast h2⟩
theorem sq_mono {a b : Int} (h0 : 0 ≤ a) (h : a ≤ b) : a * a ≤ b * b := Int.mul_le_mul h h h0 (by omega)
theorem root_unique {n r : Int} (h0 : 0 ≤ r) (h1 : r * r ≤ n) (h2 : n < (r + 1) * (r + 1)) : r = rootP n := by
  have hn : 0 ≤ n := by have := sq_nonneg r; omega
  obtain ⟨s0, s1, s2⟩ := root_spec hn
  rcases Int.lt_trichotomy r (rootP n) with h | h | h
  · have := sq_mono (a := r + 1) (b := rootP n) (by omega) (by omega); omega
  · exact h
  · have := sq_mono (a := rootP n + 1) (b := r) (by omega) (by omega); omega
def pw : Nat → Int
  | 0 => 0
  | k + 1 => 2 ^ k
theorem pow_le30 (k : Nat) (h : k ≤ 30) : (2 : Int) ^ k ≤ 1073741824 := by
  have : (2 : Int) ^ k ≤ 2 ^ 30 := by exact_mod_cast Nat.pow_le_pow_right (by omega) h
  exact Int.le_trans this (by decide)
theorem pow_pos' (k : Nat) : (0 : Int) < 2 ^ k := Int.pow_pos (by omega)

set_option maxRecDepth 100000 in
set_option maxHeartbeats 1000000 in
theorem root_any (n : Int) (w : World) (h0 : 0 ≤ n) (h1 : n ≤ 1152921504606846976) : Calls Tryd.prog 120 #[.int .i64 n] w fun e w' => e = .returned (.int .i64 (rootP n)) ∧ w = w' := by
  go_enter Tryd.func120, Tryd.ntmps120
  go_wp2
  go_loop [3, 4] (fun r b => ∃ (k : Nat) (z : Int), k ≤ 31 ∧ b = .int .i64 (pw k) ∧ r = .int .i64 z ∧ 0 ≤ z ∧ z + 2 ^ k ≤ 2147483648 ∧ z * z ≤ n ∧ n < (z + 2 ^ k) * (z + 2 ^ k)) (fun _ b => (intOf b).toNat)
  case atStart =>
    have e1 : n < ((0 : Int) + 2 ^ 31) * (0 + 2 ^ 31) := by rw [show ((0 : Int) + 2 ^ 31) * (0 + 2 ^ 31) = 4611686018427387904 by decide]; omega
    exact ⟨31, 0, by omega, congrArg (Value.int .i64) (by decide), rfl, by omega, by decide, by omega, e1⟩
  case round =>
    obtain ⟨k, z, hk, rfl, rfl, hz0, hz1, hz2, hz3⟩ := hrel
    match k, hk, hz1, hz3 with
    | 0, _, _, hz3 =>
      have HZ := Lib.hid hz3
      have HY := Lib.hid hz2
      clear hz3 hz2
      simp only [pw]
      go_wp2
      go_ret
      exact ⟨ret_int (root_unique hz0 HY.out HZ.out), rfl⟩
    | j + 1, hk, hz1, hz3 =>
      have hp1 := pow_pos' j
      have hp2 := pow_le30 j (by omega)
      have hpw : pw (j + 1) = 2 ^ j := rfl
      rw [Int.pow_succ] at hz1 hz3
      have hhalf : Hid (((2 : Int) ^ j) / 2 = pw j) := by
        show _ = _
        cases j with
        | zero => rfl
        | succ i => rw [Int.pow_succ, Int.mul_ediv_cancel _ (by omega)]; rfl
      rw [hpw]
      generalize hP : (2 : Int) ^ j = P at *
      have HP := Lib.hid hP
      clear hP hpw
      have hs1 := sq_mono (a := z + P) (b := 2147483648) (by omega) (by omega)
      have hs0 := sq_nonneg (z + P)
      have hw : wrap64 ((z + P) * (z + P)) = (z + P) * (z + P) := by unfold wrap64; omega
      have HZ := Lib.hid hz3
      have HY := Lib.hid hz2
      clear hz3 hz2
      have e2 : z + P * 2 = z + P + P := by omega
      rw [e2] at HZ
      by_cases ht : (z + P) * (z + P) ≤ n
      · go_wp2
        go_round
        case rel => exact ⟨j, z + P, by omega, by rw [hhalf.out], by go_num, by omega, by rw [HP.out]; omega, ht, by rw [HP.out]; exact HZ.out⟩
        case measure => simp [intOf]; omega
      · go_wp2
        go_round
        case rel => exact ⟨j, z, by omega, by rw [hhalf.out], rfl, hz0, by rw [HP.out]; omega, HY.out, by rw [HP.out]; omega⟩
        case measure => simp [intOf]; omega
def upP (n : Int) : Int := if rootP n * rootP n < n then rootP n + 1 else rootP n
theorem root_le {n : Int} (h0 : 0 ≤ n) (h1 : n ≤ 1152921504606846976) : rootP n ≤ 1073741824 := by
  obtain ⟨s0, s1, s2⟩ := root_spec h0
  rcases Int.lt_or_le 1073741824 (rootP n) with h | h
  · have := sq_mono (a := 1073741825) (b := rootP n) (by omega) (by omega); omega
  · exact h
set_option maxRecDepth 100000 in
set_option maxHeartbeats 1000000 in
theorem rootUp_any (n : Int) (w : World) (h0 : 0 ≤ n) (h1 : n ≤ 1152921504606846976) : Calls Tryd.prog 121 #[.int .i64 n] w fun e w' => e = .returned (.int .i64 (upP n)) ∧ w = w' := by
  have HR := Lib.hid (fun w1 => root_any n w1 h0 h1)
  obtain ⟨s0, s1, s2⟩ := root_spec h0
  have s3 := root_le h0 h1
  unfold upP
  generalize hr : rootP n = r at *
  have s4 := sq_nonneg r
  have hw : wrap64 (r * r) = r * r := by unfold wrap64; omega
  have S2 := Lib.hid s2
  clear s2 hr
  by_cases ht : r * r < n
  · rw [if_pos ht]
    go_enter Tryd.func121, Tryd.ntmps121
    go_wp2_with (first | (go_at_call 120; (with_reducible refine (HR.out _).mono ?_); rintro e w3 ⟨rfl, rfl⟩))
    go_ret
    exact ⟨rfl, rfl⟩
  · rw [if_neg ht]
    go_enter Tryd.func121, Tryd.ntmps121
    go_wp2_with (first | (go_at_call 120; (with_reducible refine (HR.out _).mono ?_); rintro e w3 ⟨rfl, rfl⟩))
    go_ret
    exact ⟨rfl, rfl⟩
theorem norm_bd {v : T2} (h : rightB v = true) : normW v = normP v ∧ 0 ≤ normP v ∧ normP v ≤ 30000000000 := by
  have hs := right_sm h
  have e := normW_eq v 100000 hs (by omega)
  have h4 := norm_four v
  have h5 := sq_nonneg (2 * v.1 - v.2)
  have h6 := sq_nonneg v.2
  unfold Sm at hs
  have h1 := mul_le_of (a := v.1) (b := v.1) (M := 100000) (by omega) (by omega) (by omega) (by omega)
  have h2 := mul_le_of (a := v.1) (b := v.2) (M := 100000) (by omega) (by omega) (by omega) (by omega)
  have h3 := mul_le_of (a := v.2) (b := v.2) (M := 100000) (by omega) (by omega) (by omega) (by omega)
  refine ⟨e, by omega, ?_⟩
  unfold normP; omega
/-- A range as a value. -/
abbrev rV (a b : Int) : Value := .agg #[.int .i64 a, .int .i64 b]
set_option maxRecDepth 100000 in
set_option maxHeartbeats 1000000 in
theorem rSizeOf_any (v : T2) (w : World) (h : rightB v = true) : Calls Tryd.prog 78 #[tV v] w fun e w' => e = .returned (rV (rootP (normP v)) (upP (normP v))) ∧ Ext w w' := by
  obtain ⟨e0, h1, h2⟩ := norm_bd h
  have HN := Lib.hid (bTNorm_any v)
  rw [e0] at HN
  have HR := Lib.hid (fun w1 => root_any (normP v) w1 h1 (by omega))
  have HU := Lib.hid (fun w1 => rootUp_any (normP v) w1 h1 (by omega))
  generalize rootP (normP v) = r at *
  generalize upP (normP v) = u at *
  generalize normP v = q at *
  clear e0 h1 h2
  go_enter Tryd.func78, Tryd.ntmps78
  go_wp2
  apply wp_region_ext 7 [.is _, .is _, .is _, .is _, .is _, .is _, .is _] (by kernel_rfl) (by kernel_rfl) (by kernel_rfl) (fun V => ?steps) (fun V w1 hx_w1 hf_w1 => ?tail)
  case steps =>
    simp only [List.take, Region.binds, mode_text, mode_gc, if_true, true_and, Bool.false_eq_true, if_false, List.drop, StepsU, StepsG, putsAll, FactsAt, Fs, val, List.getD_cons_zero, List.getD_cons_succ, List.getD_nil, SF.is, SF.rd, SF.any, SF.box, Option.getD_some, Option.getD_none, Act.put, List.setIfInBounds_toArray, List.set_cons_zero, List.set_cons_succ]
    refine ⟨?_, ?_, ?_, ?_, ?_, ?_, ?_, trivial⟩ <;> (intro w2 hx hf; obtain ⟨hc, hfz⟩ := bcell hx; go_simp; (try simp only [wrap_eq]); first
      | exact Post.mk rfl (Ext.refl _)
      | rfl
      | (refine Post.mk ?_ (Ext.refl _); (simp <;> omega); done)
      | exact Post.mk ⟨_, _, rfl, Nat.le_refl _, Rd.new _ _ _ _ _ rfl⟩ ((Ext.refl _).alloc _)
      | (refine Post.mk ⟨_, rfl, ?_, Bx.new _ _ _⟩ ((Ext.refl _).alloc _); have := hx.size; (try simp at this); (try simp); omega)
      | ((with_reducible refine CallTo.of (HN.out _) ?_); exact fun _ _ => rfl)
      | ((with_reducible refine CallTo.same (HR.out _) ?_); rfl)
      | ((with_reducible refine CallTo.same (HU.out _) ?_); rfl))
  case tail =>
  simp only [FactsTo, List.take, Region.binds, mode_text, mode_gc, if_true, true_and, Bool.false_eq_true, if_false, List.drop, StepsU, StepsG, putsAll, FactsAt, Fs, val, List.getD_cons_zero, List.getD_cons_succ, List.getD_nil, SF.is, SF.rd, SF.any, SF.box, Option.getD_some, Option.getD_none, Act.put, List.setIfInBounds_toArray, List.set_cons_zero, List.set_cons_succ] at hf_w1 ⊢
  obtain ⟨hc_w1, hfz_w1⟩ := bcell hx_w1
  have hzw1_0 : w.heap.size < w1.heap.size := (by have := hx_w1.size; (try simp at this); omega); have hzw1_1 : w.heap.size + 1 < w1.heap.size := (by have := hx_w1.size; (try simp at this); omega)
  go_wp2
  have hb : Bx w1 (w.heap.size + 1) 110 #[.int .i64 0, .int .i64 0] := by (repeat' (first | exact Bx.new _ _ _ | exact Bx.new_at _ _ (by simp; done) | refine Bx.alloc ?_ _ | refine Bx.ext ?_ (by assumption)))
  obtain ⟨b0, b1, b2, b3, b4⟩ := hb.at2
  exact bodyPost_ret (v := rV r u) (by simp [results, Tryd.results78, go_sem, b0, b1, b2, b3, b4]) rfl ⟨rfl, by ((repeat' (first | with_reducible exact Ext.refl _ | assumption | with_reducible exact Ext.one _ | with_reducible refine Ext.alloc ?_ _ | with_reducible refine Ext.setCell ?_ ?_ _ | with_reducible refine Ext.drew ?_ | refine Ext.trans ?_ (by assumption))) <;> (try simp) <;> omega)⟩
def okR (E : Int) (a : Int) : Int := if E = 0 then a else 0
set_option maxRecDepth 100000 in
set_option maxHeartbeats 1000000 in
theorem sizeOf_any (v : T2) (w : World) : Calls Tryd.prog 75 #[tV v] w fun e w' => e = .returned (.tuple #[rV (okR (unlessE (rightB v) 2) (rootP (normP v))) (okR (unlessE (rightB v) 2) (upP (normP v))), .int .i64 (unlessE (rightB v) 2)]) ∧ Ext w w' := by
  have HR := Lib.hid (fun t w A hA => rightOf1 v t w A hA)
  cases h : rightB v with
  | false =>
    rw [h] at HR
    go_enter Tryd.func75, Tryd.ntmps75
    go_wp2_with (first | (go_at_call 82; (with_reducible refine (HR.out _ _ _ (by simp)).mono ?_); rintro e w3 ⟨rfl, hx3⟩; obtain ⟨hc3, hf3⟩ := bcell hx3; have hzw3_0 : w.heap.size < w3.heap.size := (by have := hx3.size; (try simp at this); omega); have hzw3_1 : w.heap.size + 1 < w3.heap.size := (by have := hx3.size; (try simp at this); omega); simp only [unlessE, Bool.false_eq_true, if_false]))
    have hb : Bx w3 (w.heap.size + 1) 110 #[.int .i64 0, .int .i64 0] := by (repeat' (first | exact Bx.new _ _ _ | exact Bx.new_at _ _ (by simp; done) | refine Bx.alloc ?_ _ | refine Bx.ext ?_ (by assumption)))
    obtain ⟨b0, b1, b2, b3, b4⟩ := hb.at2
    exact bodyPost_ret (v := .tuple #[rV 0 0, .int .i64 2]) (by simp [results, Tryd.results75, go_sem, b0, b1, b2, b3, b4]) rfl ⟨rfl, by ((repeat' (first | with_reducible exact Ext.refl _ | assumption | with_reducible exact Ext.one _ | with_reducible refine Ext.alloc ?_ _ | with_reducible refine Ext.setCell ?_ ?_ _ | with_reducible refine Ext.drew ?_ | refine Ext.trans ?_ (by assumption))) <;> (try simp) <;> omega)⟩
  | true =>
    obtain ⟨e0, h1, h2⟩ := norm_bd h
    have HQ := Lib.hid (square_any v)
    rw [e0] at HQ
    rw [h] at HR
    have HU := Lib.hid (show ∀ r, 0 ≤ r → r * r ≤ normP v → normP v < (r + 1) * (r + 1) → r = rootP (normP v) from fun r a b c => root_unique a b c)
    have HV := Lib.hid (show upP (normP v) = if rootP (normP v) * rootP (normP v) < normP v then rootP (normP v) + 1 else rootP (normP v) from rfl)
    generalize upP (normP v) = u at *
    generalize rootP (normP v) = r at *
    generalize normP v = q at *
    clear e0
    go_enter Tryd.func75, Tryd.ntmps75
    go_wp2_with (first | (go_at_call 82; (with_reducible refine (HR.out _ _ _ (by simp)).mono ?_); rintro e w3 ⟨rfl, hx3⟩; obtain ⟨hc3, hf3⟩ := bcell hx3; have hzw3_0 : w.heap.size < w3.heap.size := (by have := hx3.size; (try simp at this); omega); have hzw3_1 : w.heap.size + 1 < w3.heap.size := (by have := hx3.size; (try simp at this); omega); simp only [unlessE, if_true]) | (go_at_call 119; (with_reducible refine (HQ.out _).mono ?_); rintro e w4 ⟨rfl, hx4⟩; obtain ⟨hc4, hf4⟩ := bcell hx4; have hzw4_0 : w.heap.size < w4.heap.size := (by have := hx4.size; (try simp at this); omega); have hzw4_1 : w.heap.size + 1 < w4.heap.size := (by have := hx4.size; (try simp at this); omega)))
    go_loop [6, 7] (fun l g => ∃ lo hi : Int, 0 ≤ lo ∧ lo < hi ∧ hi ≤ 200000 ∧ l = .int .i64 lo ∧ g = .int .i64 hi ∧ Hid (lo * lo ≤ q) ∧ Hid (q < hi * hi)) (fun l g => (intOf g - intOf l).toNat)
    case atStart => exact ⟨0, 200000, by omega, by omega, by omega, rfl, rfl, by show _ ≤ _; omega, by show _ < _; omega⟩
    case round =>
      obtain ⟨lo, hi, l0, l1, l2, rfl, rfl, i1, i2⟩ := hrel
      by_cases hlt : lo + 1 < hi
      · have hm0 : 0 ≤ (lo + hi) / 2 := by omega
        have hm1 : lo < (lo + hi) / 2 := by omega
        have hm2 : (lo + hi) / 2 < hi := by omega
        have hs := sq_mono hm0 (show (lo + hi) / 2 ≤ 200000 by omega)
        have hs0 := sq_nonneg ((lo + hi) / 2)
        have hw : wrap64 ((lo + hi) / 2 * ((lo + hi) / 2)) = (lo + hi) / 2 * ((lo + hi) / 2) := by unfold wrap64; omega
        by_cases ht : (lo + hi) / 2 * ((lo + hi) / 2) ≤ q
        · go_wp2
          go_round
          case rel => exact ⟨_, _, by omega, by omega, by omega, rfl, rfl, ht, i2⟩
          case measure => simp [intOf]; omega
        · have ht' : q < (lo + hi) / 2 * ((lo + hi) / 2) := by omega
          go_wp2
          go_round
          case rel => exact ⟨_, _, by omega, by omega, by omega, rfl, rfl, i1, ht'⟩
          case measure => simp [intOf]; omega
      · obtain rfl : hi = lo + 1 := by omega
        have hlr := HU.out lo l0 i1.out i2.out
        subst hlr
        have hs := sq_mono l0 (show lo ≤ 200000 by omega)
        have hs0 := sq_nonneg lo
        have hw : wrap64 (lo * lo) = lo * lo := by unfold wrap64; omega
        have HS := Lib.hid hs
        clear hs
        have hb : Bx w4 (w.heap.size + 1) 110 #[.int .i64 0, .int .i64 0] := by (repeat' (first | exact Bx.new _ _ _ | exact Bx.new_at _ _ (by simp; done) | refine Bx.alloc ?_ _ | refine Bx.ext ?_ (by assumption)))
        obtain ⟨b0, b1, b2, b3, b4⟩ := hb.at2
        by_cases ht : lo * lo < q
        · have hu := HV.out
          rw [if_pos ht] at hu
          subst hu
          clear HU HV
          go_wp2
          exact bodyPost_ret (v := .tuple #[rV lo (lo + 1), .int .i64 0]) (by simp [results, Tryd.results75, go_sem, b0, b1, b2, b3, b4]) rfl ⟨rfl, by ((repeat' (first | with_reducible exact Ext.refl _ | assumption | with_reducible exact Ext.one _ | with_reducible refine Ext.alloc ?_ _ | with_reducible refine Ext.setCell ?_ ?_ _ | with_reducible refine Ext.drew ?_ | refine Ext.trans ?_ (by assumption))) <;> (try simp) <;> omega)⟩
        · have hu := HV.out
          rw [if_neg ht] at hu
          subst hu
          clear HU HV
          go_wp2
          exact bodyPost_ret (v := .tuple #[rV u u, .int .i64 0]) (by simp [results, Tryd.results75, go_sem, b0, b1, b2, b3, b4]) rfl ⟨rfl, by ((repeat' (first | with_reducible exact Ext.refl _ | assumption | with_reducible exact Ext.one _ | with_reducible refine Ext.alloc ?_ _ | with_reducible refine Ext.setCell ?_ ?_ _ | with_reducible refine Ext.drew ?_ | refine Ext.trans ?_ (by assumption))) <;> (try simp) <;> omega)⟩
end Go.Proofs.YtdbglpaejmhbjaaDoor
