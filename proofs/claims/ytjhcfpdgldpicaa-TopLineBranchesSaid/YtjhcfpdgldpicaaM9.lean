/- Texts of this claim, one behind the other: lemmas for the statement. -/
import Derived.Test.YtjhcfpdgldpicaaT0
import Derived.Test.YtjhcfpdgldpicaaM8
import Derived.Test.YtjhcfpdgldpicaaA27
set_option linter.unusedSimpArgs false
set_option linter.unusedVariables false
namespace Go.Proofs.Ytjhcfpdgldpicaa
open Go Go.RowKit Go.Proofs
theorem y44_hcf83 : ∀ args w, (callFunc 83 args).run Try.prog w = .ok (.enter 83 args) w := fun _ _ => by kernel_rfl
theorem wrap8 {z : Int} (h0 : 0 ≤ z) (h1 : z < 256) : IntKind.u8.wrap z = z := by
 show z % (256 : Int) = z
 omega
theorem wrap64i {z : Int} (h0 : -9223372036854775808 ≤ z) (h1 : z ≤ 9223372036854775807) : IntKind.i64.wrap z = z := wrap_in ⟨h0, h1⟩
def tabOk (T : ByteArray) : Bool := (List.range 256).all fun k => (T.data.toList.getD k default).toNat == bitN k
theorem bitN_64 {x : Nat} (h : x < 18446744073709551616) : bitN x ≤ 64 := by
 unfold bitN
 split
 ·omega
 ·next h0 => have := (Nat.log2_lt h0).2 (show x < 2 ^ 64 from h); omega
theorem len_fin {T : ByteArray} (hT : tabOk T = true) {x z a : Int} (s : Nat) (ha : a = s) (h0 : 0 ≤ x ∧ x < 18446744073709551616) (hz : z = x / ((2 ^ s : Nat) : Int)) (hw : 0 ≤ z ∧ z < 256) (hq : (s : Int) = 0 ∨ 1 ≤ z) (hs : s ≤ 56) :
 mA (IntKind.i64.wrap (a + IntKind.i64.wrap ((T.data.toList.getD (IntKind.u8.wrap z).toNat default).toNat : Nat))) = mA ((bitN x.toNat : Nat) : Int) := by
 rw [wrap8 hw.1 hw.2]
 have hk : (T.data.toList.getD z.toNat default).toNat = bitN z.toNat := by
  have := List.all_eq_true.1 hT z.toNat (List.mem_range.2 (by omega))
  simpa using this
 rw [hk]
 have hx : ((x.toNat : Nat) : Int) = x := by omega
 have hzn : z.toNat = x.toNat / 2 ^ s := by
  have : z = ((x.toNat / 2 ^ s : Nat) : Int) := by rw [hz, Int.natCast_ediv, hx]
  omega
 have hb : bitN x.toNat = s + bitN z.toNat := by
  rcases hq with hq | hq
  ·have : s = 0 := by omega
   subst this
   rw [hzn]; simp
  ·obtain ⟨b1, b2, b3⟩ := bitN_8 z.toNat (by omega) (by omega)
   rw [hzn] at b1 b2 b3
   have := bitN_of b1 b2 b3
   rw [hzn]; omega
 have h64 := bitN_64 (x := x.toNat) (by omega)
 rw [wrap64i (z := ((bitN z.toNat : Nat) : Int)) (by omega) (by omega), wrap64i (by omega) (by omega), ha, hb]
 refine congrArg mA ?_
 omega
def lnA1 (x : Int) : Int := if 4294967296 ≤ x then 32 else 0
def lnX1 (x : Int) : Int := if 4294967296 ≤ x then x / 4294967296 else x
def lnA2 (x : Int) : Int := if 65536 ≤ lnX1 x then lnA1 x + 16 else lnA1 x
def lnX2 (x : Int) : Int := if 65536 ≤ lnX1 x then lnX1 x / 65536 else lnX1 x
def lnA3 (x : Int) : Int := if 256 ≤ lnX2 x then lnA2 x + 8 else lnA2 x
def lnX3 (x : Int) : Int := if 256 ≤ lnX2 x then lnX2 x / 256 else lnX2 x
theorem ln_of (x : Int) (h : 0 ≤ x ∧ x < 18446744073709551616) : ∃ k : Nat, lnA3 x = k ∧ lnX3 x = x / ((2 ^ k : Nat) : Int) ∧ (0 ≤ lnX3 x ∧ lnX3 x < 256) ∧ ((k : Int) = 0 ∨ 1 ≤ lnX3 x) ∧ k ≤ 56 := by
 unfold lnX3 lnA3 lnX2 lnA2 lnX1 lnA1
 (repeat' split) <;> first | exact ⟨56, by omega, by omega, by omega, by omega, by omega⟩ | exact ⟨48, by omega, by omega, by omega, by omega, by omega⟩ | exact ⟨40, by omega, by omega, by omega, by omega, by omega⟩ | exact ⟨32, by omega, by omega, by omega, by omega, by omega⟩ | exact ⟨24, by omega, by omega, by omega, by omega, by omega⟩ | exact ⟨16, by omega, by omega, by omega, by omega, by omega⟩ | exact ⟨8, by omega, by omega, by omega, by omega, by omega⟩ | exact ⟨0, by omega, by simp, by omega, by omega, by omega⟩ | omega
theorem avu0 {m n : Int} (h : m = n) : AV.v (.int .u64 m) = AV.v (.int .u64 n) := by rw [h]
set_option maxRecDepth 100000 in
set_option maxHeartbeats 4000000 in
theorem len64_ok (x : Int) (hx : InU64 x) : FnOk Try.prog 83 [uA x] (fun q => q = mA (bitN x.toNat)) := by
 refine fnOk_of (fn := Try.f83) 25 (by kernel_rfl) rfl (by kernel_rfl) (Nat.le_of_ble_eq_true rfl) ?_
 intro e_0 m_0 hA hm_0
 have s0_0 : evA e_0 (.tmp 0) = _ := hA 0 _ rfl
 have ml_0 : m_0.length = 0 := by rw [hm_0]; rfl
 clear hA hm_0
 have hx' := hx; unfold InU64 at hx'; obtain ⟨k, e1, e2, e3, e4, e5⟩ := ln_of x hx'; have hz := wrap8 e3.1 e3.2; have hb1 : lnA1 x = 0 ∨ lnA1 x = 32 := (by unfold lnA1; split <;> omega); have hb2 : lnA2 x = lnA1 x ∨ lnA2 x = lnA1 x + 16 := (by unfold lnA2; split <;> omega)
 refine aw_seq <| at_ <| ar (ro_assign ev_c) rfl <| ae2 (up_m rfl s0_0) up_h ?_; clear s0_0; intro e_1 s0_1 s2_1
 refine then_n <| aw_seq <| aw_cut (fun e mem => (evA e (.tmp 0) = .v (.int .u64 (lnX1 x))) ∧ (evA e (.tmp 2) = .v (.int .i64 (lnA1 x))) ∧ m_0 = mem) ?_ ?_
 ·
  refine aw_seq <| at_ <| ar (ro_move s0_1) rfl <| ar (ro_geq up_h ev_c) rfl <| ae3 (u2 rfl s0_1) (u2 rfl s2_1) up_h ?_; intro e_3 s0_3 s2_3 s4_3
  refine then_n <| aw_case s4_3 (fun hq_4 => ?_) (fun hq_4 => ?_)
  ·replace hq_4 := bt hq_4
   refine aw_seq <| at_ <| ar (ro_move s0_3) rfl <| ar (ro_shr (c := 4294967296) up_h ev_c (by decide) (by decide)) rfl ?_
   refine ar (ro_assign up_h) rfl <| ae1 up_h ?_; intro e_5 s0_5
   refine then_n <| at_ <| ar (ro_assign ev_c) rfl <| ae2 (up_m rfl s0_5) up_h ?_; intro e_6 s0_6 s2_6
   refine then_n ⟨(s0_6).trans (by (refine avu0 ?_; unfold lnX1; first | rw [if_pos (by assumption)] | rw [if_neg (by assumption)])), (s2_6).trans (by (refine congrArg mA ?_; unfold lnA1; first | rw [if_pos (by assumption)] | rw [if_neg (by assumption)])), rfl⟩
  replace hq_4 := bf hq_4
  refine aw_skip <| then_n ⟨(s0_3).trans (by (refine avu0 ?_; unfold lnX1; first | rw [if_pos (by assumption)] | rw [if_neg (by assumption)])), (s2_3).trans (by (refine congrArg mA ?_; unfold lnA1; first | rw [if_pos (by assumption)] | rw [if_neg (by assumption)])), rfl⟩
 ·rintro e_2 _ ⟨s0_2, s2_2, rfl⟩
  refine aw_seq <| aw_cut (fun e mem => (evA e (.tmp 0) = .v (.int .u64 (lnX2 x))) ∧ (evA e (.tmp 2) = .v (.int .i64 (lnA2 x))) ∧ m_0 = mem) ?_ ?_
  ·
   refine aw_seq <| at_ <| ar (ro_move s0_2) rfl <| ar (ro_geq up_h ev_c) rfl <| ae3 (u2 rfl s0_2) (u2 rfl s2_2) up_h ?_; intro e_8 s0_8 s2_8 s8_8
   refine then_n <| aw_case s8_8 (fun hq_9 => ?_) (fun hq_9 => ?_)
   ·replace hq_9 := bt hq_9
    refine aw_seq <| at_ <| ar (ro_move s0_8) rfl <| ar (ro_shr (c := 65536) up_h ev_c (by decide) (by decide)) rfl ?_
    refine ar (ro_assign up_h) rfl <| ae2 up_h (up_m rfl (u2 rfl s2_8)) ?_; intro e_10 s0_10 s2_10
    refine then_n <| at_ <| ar (ro_move s2_10) rfl ?_
    (refine ar (ro_add' up_h ev_c ?_) rfl ?_; · ((first | unfold In64 | unfold InU64); omega))
    refine ar (ro_assign up_h) rfl <| ae2 (up_m rfl (u2 rfl s0_10)) up_h ?_; intro e_11 s0_11 s2_11
    refine then_n ⟨(s0_11).trans (by (refine avu0 ?_; unfold lnX2; first | rw [if_pos (by assumption)] | rw [if_neg (by assumption)])), (s2_11).trans (by (refine congrArg mA ?_; unfold lnA2; first | rw [if_pos (by assumption)] | rw [if_neg (by assumption)])), rfl⟩
   replace hq_9 := bf hq_9
   refine aw_skip <| then_n ⟨(s0_8).trans (by (refine avu0 ?_; unfold lnX2; first | rw [if_pos (by assumption)] | rw [if_neg (by assumption)])), (s2_8).trans (by (refine congrArg mA ?_; unfold lnA2; first | rw [if_pos (by assumption)] | rw [if_neg (by assumption)])), rfl⟩
  ·rintro e_7 _ ⟨s0_7, s2_7, rfl⟩
   refine aw_seq <| aw_cut (fun e mem => (evA e (.tmp 0) = .v (.int .u64 (lnX3 x))) ∧ (evA e (.tmp 2) = .v (.int .i64 (lnA3 x))) ∧ m_0 = mem) ?_ ?_
   ·
    refine aw_seq <| at_ <| ar (ro_move s0_7) rfl <| ar (ro_geq up_h ev_c) rfl <| ae3 (u2 rfl s0_7) (u2 rfl s2_7) up_h ?_; intro e_13 s0_13 s2_13 s14_13
    refine then_n <| aw_case s14_13 (fun hq_14 => ?_) (fun hq_14 => ?_)
    ·replace hq_14 := bt hq_14
     refine aw_seq <| at_ <| ar (ro_move s0_13) rfl <| ar (ro_shr (c := 256) up_h ev_c (by decide) (by decide)) rfl ?_
     refine ar (ro_assign up_h) rfl <| ae2 up_h (up_m rfl (u2 rfl s2_13)) ?_; intro e_15 s0_15 s2_15
     refine then_n <| at_ <| ar (ro_move s2_15) rfl ?_
     (refine ar (ro_add' up_h ev_c ?_) rfl ?_; · ((first | unfold In64 | unfold InU64); omega))
     refine ar (ro_assign up_h) rfl <| ae2 (up_m rfl (u2 rfl s0_15)) up_h ?_; intro e_16 s0_16 s2_16
     refine then_n ⟨(s0_16).trans (by (refine avu0 ?_; unfold lnX3; first | rw [if_pos (by assumption)] | rw [if_neg (by assumption)])), (s2_16).trans (by (refine congrArg mA ?_; unfold lnA3; first | rw [if_pos (by assumption)] | rw [if_neg (by assumption)])), rfl⟩
    replace hq_14 := bf hq_14
    refine aw_skip <| then_n ⟨(s0_13).trans (by (refine avu0 ?_; unfold lnX3; first | rw [if_pos (by assumption)] | rw [if_neg (by assumption)])), (s2_13).trans (by (refine congrArg mA ?_; unfold lnA3; first | rw [if_pos (by assumption)] | rw [if_neg (by assumption)])), rfl⟩
   ·rintro e_12 _ ⟨s0_12, s2_12, rfl⟩
    refine aw_seq <| at_ <| ar (ro_move s2_12) rfl <| ar (ro_move (up_m rfl s0_12)) rfl <| ar (ro_cv (k' := .u8) up_h (by kernel_rfl) (by kernel_rfl)) rfl ?_
    refine ar (ro_sindex ev_c up_h qun9 (by omega) (by refine idx_str ?_; first | omega | (simp <;> omega; done) | (refine Nat.lt_of_lt_of_le (m := 256) ?_ (by decide +kernel); omega))) rfl ?_
    refine ar (ro_cv (k' := .i64) up_h (by kernel_rfl) (by kernel_rfl)) rfl ?_
    refine ar (ro_add (u4 rfl up_h) up_h) rfl <| ar (ro_assign up_h) rfl <| ae1 up_h ?_; clear s0_12 s2_12; intro e_17 s2_17
    refine then_n <| aw_ret <| ret1 (.inr rfl) (by kernel_rfl) (resV_tmp s2_17) (.ro _ rfl) ?_
    clear s2_17 ml_0
    exact len_fin (by decide +kernel) k e1 hx' e2 e3 e4 e5
set_option maxRecDepth 100000 in
set_option maxHeartbeats 4000000 in
theorem lead64_ok (x : Int) (hx : InU64 x) : FnOk Try.prog 70 [uA x] (fun q => q = mA (64 - bitN x.toNat)) := by
 refine fnOk_of (fn := Try.f70) 6 (by kernel_rfl) rfl (by kernel_rfl) (Nat.le_of_ble_eq_true rfl) ?_
 intro e_0 m_0 hA hm_0
 have s0_0 : evA e_0 (.tmp 0) = _ := hA 0 _ rfl
 have ml_0 : m_0.length = 0 := by rw [hm_0]; rfl
 clear hA hm_0
 have h64 := bitN_64 (x := x.toNat) (by unfold InU64 at hx; omega)
 refine aw_seq <| at_ <| ar (ro_assign ev_c) rfl <| ae1 (up_m rfl s0_0) ?_; clear s0_0; intro e_1 s0_1
 refine then_n <| aw_seq <| at_ <| ar (ro_move s0_1) rfl <| ar (ro_call (evL_cons up_h evL_nil) rfl (len64_ok x hx) y44_hcf83) rfl ?_
 (refine ar (ro_sub' ev_c up_h ?_) rfl ?_; · (unfold In64; omega))
 refine ar (ro_assign up_h) rfl <| ae1 up_h ?_; clear s0_1; intro e_2 s2_2
 refine then_n <| aw_ret <| ret1 (.inr rfl) (by kernel_rfl) (resV_tmp s2_2) (.ro _ rfl) ?_
 clear s2_2 ml_0
 rfl
def OrOk (m n : Int) : Prop := ∃ (a c : Nat), c ≤ 64 ∧ m = ((2 ^ c * a : Nat) : Int) ∧ 0 ≤ n ∧ n < ((2 ^ c : Nat) : Int) ∧ InU64 m ∧ InU64 (m + n)
theorem ro_orU {P : Program} {e : Nat → AV} {mem : List Ob} {d : Option Tmp} {x y : Operand} {t t2 ty : TypeId} {pos : String} {af : Array Edge} {g : Option (Nat × Bool)} {m n : Int} (hx : evA e x = .v (.int .u64 m)) (hy : evA e y = .v (.int .u64 n)) (h : OrOk m n) : OpRO P ⟨d, .binOp .or t x y t2, ty, pos, af, g⟩ e mem (.v (.int .u64 (m + n))) :=
 ro_int hx hy fun w => by
  rw [bin_kk ⟨by decide, by decide⟩]
  show (Op.intBits .or .u64 m _).run P w = _
  obtain ⟨a, c, hc, rfl, h0, h1, h2, h3⟩ := h
  obtain ⟨q, rfl⟩ := Int.eq_ofNat_of_zero_le h0
  have hq : q < 2 ^ c := by exact_mod_cast h1
  unfold InU64 at h2 h3
  have e1 : (BitVec.ofInt 64 ((2 ^ c * a : Nat) : Int)).toNat = 2 ^ c * a := by
   rw [BitVec.ofInt_natCast, BitVec.toNat_ofNat, Nat.mod_eq_of_lt (by omega)]
  have e2 : (BitVec.ofInt 64 (q : Int)).toNat = q := by
   rw [BitVec.ofInt_natCast, BitVec.toNat_ofNat, Nat.mod_eq_of_lt (by omega)]
  have e3 : IntKind.u64.wrap ((BitVec.ofInt 64 ((2 ^ c * a : Nat) : Int) ||| BitVec.ofInt 64 (q : Int)).toNat : Nat) = ((2 ^ c * a : Nat) : Int) + (q : Int) := by
   rw [BitVec.toNat_or, e1, e2, ← Nat.two_pow_add_eq_or_of_lt hq, wrapU_eq]
   omega
  unfold Op.intBits
  rw [← e3]; rfl
theorem shp {s : Nat} (h : s ≤ 64) : ((2 ^ min ((s : Int)).toNat IntKind.u64.bits : Nat) : Int) = ((2 ^ s : Nat) : Int) := by
 rw [Int.toNat_natCast, show IntKind.u64.bits = 64 from rfl, Nat.min_eq_left h]
theorem shq {s : Nat} (h : s ≤ 64) : ((2 ^ min ((64 : Int) - (s : Int)).toNat IntKind.u64.bits : Nat) : Int) = ((2 ^ (64 - s) : Nat) : Int) := by
 rw [show ((64 : Int) - (s : Int)).toNat = 64 - s by omega, show IntKind.u64.bits = 64 from rfl, Nat.min_eq_left (by omega)]
structure Dv (hi lo y : Int) (s : Nat) (p q2 Y u v : Int) : Prop where
 lo0 : InU64 lo
 hh : 1 ≤ hi ∧ hi < y
 sb : (64 : Int) - (bitN y.toNat : Nat) = s
 s0 : 2 ≤ s ∧ s ≤ 63
 hp : ((2 ^ s : Nat) : Int) = p
 hq2 : ((2 ^ (64 - s) : Nat) : Int) = q2
 hY : y * p = Y
 Yb : 9223372036854775808 ≤ Y ∧ Y < 18446744073709551616
 hu : hi * p + lo / q2 = u
 ub : 0 ≤ u ∧ u < Y
 hv : lo * p % 18446744073709551616 = v
 hip : InU64 (hi * p)
 ok : OrOk (hi * p) (lo / q2)
theorem dv_of {hi lo y : Int} (hlo : InU64 lo) (hh : 1 ≤ hi ∧ hi < y) (hy : y < 4611686018427387904) : ∃ s p q2 Y u v, Dv hi lo y s p q2 Y u v := by
 unfold InU64 at hlo
 have hy0 : y.toNat ≠ 0 := by omega
 have hb : bitN y.toNat = Nat.log2 y.toNat + 1 := by unfold bitN; rw [if_neg hy0]
 have l1 := Nat.log2_self_le hy0
 have l2 := @Nat.lt_log2_self y.toNat
 have l3 := (Nat.log2_lt hy0 (k := 62)).2 (by omega)
 generalize hk : Nat.log2 y.toNat = k at *
 have hs : 64 - (k + 1) = 63 - k := by omega
 have pw : 2 ^ (63 - k) * 2 ^ k = 9223372036854775808 := by rw [← Nat.pow_add, show 63 - k + k = 63 by omega]
 have pw2 : 2 ^ (63 - k) * 2 ^ (k + 1) = 18446744073709551616 := by rw [Nat.pow_succ, ← Nat.mul_assoc, pw]
 have hq : 64 - (63 - k) = k + 1 := by omega
 have hpp : 0 < 2 ^ (63 - k) := Nat.pow_pos (by decide)
 have hYn : 9223372036854775808 ≤ y.toNat * 2 ^ (63 - k) ∧ y.toNat * 2 ^ (63 - k) < 18446744073709551616 := by
  constructor
  ·rw [← pw, Nat.mul_comm (2 ^ (63 - k))]; exact Nat.mul_le_mul_right _ l1
  ·rw [← pw2, Nat.mul_comm (2 ^ (63 - k))]; exact Nat.mul_lt_mul_of_pos_right l2 hpp
 have hYi : y * ((2 ^ (63 - k) : Nat) : Int) = ((y.toNat * 2 ^ (63 - k) : Nat) : Int) := by
  rw [Int.natCast_mul, show ((y.toNat : Nat) : Int) = y by omega]
 have hlq : lo / ((2 ^ (k + 1) : Nat) : Int) < ((2 ^ (63 - k) : Nat) : Int) := by
  rw [Int.ediv_lt_iff_lt_mul (by exact_mod_cast Nat.pow_pos (by decide)), ← Int.natCast_mul, pw2]; exact hlo.2
 have hlq0 : 0 ≤ lo / ((2 ^ (k + 1) : Nat) : Int) := Int.ediv_nonneg hlo.1 (Int.natCast_nonneg _)
 have hle : (hi + 1) * ((2 ^ (63 - k) : Nat) : Int) ≤ y * ((2 ^ (63 - k) : Nat) : Int) := Int.mul_le_mul_of_nonneg_right (by omega) (Int.natCast_nonneg _)
 have hh0 : 0 ≤ hi * ((2 ^ (63 - k) : Nat) : Int) := Int.mul_nonneg (by omega) (Int.natCast_nonneg _)
 rw [Int.add_mul, Int.one_mul] at hle
 refine ⟨63 - k, _, _, _, _, _, ⟨hlo, hh, by omega, by omega, rfl, by rw [hq], rfl, by omega, rfl, by omega, rfl, ⟨hh0, by omega⟩, ?_⟩⟩
 refine ⟨hi.toNat, 63 - k, by omega, ?_, hlq0, hlq, ⟨hh0, by omega⟩, ⟨by omega, by omega⟩⟩
 rw [Int.natCast_mul, show ((hi.toNat : Nat) : Int) = hi by omega, Int.mul_comm]
def dq1 (Y u v : Int) : Int := halQ (Y / 4294967296) (Y % 4294967296) u (v / 4294967296)
def dU (Y u v : Int) : Int := u * 4294967296 + v / 4294967296 - dq1 Y u v * Y
def dq0 (Y u v : Int) : Int := halQ (Y / 4294967296) (Y % 4294967296) (dU Y u v) (v % 4294967296)
def dR (Y u v : Int) : Int := dU Y u v * 4294967296 + v % 4294967296 - dq0 Y u v * Y
theorem Y_two (Y : Int) : Y / 4294967296 * 4294967296 + Y % 4294967296 = Y := by omega
theorem Dv.hal1 {hi lo y : Int} {s : Nat} {p q2 Y u v : Int} (h : Dv hi lo y s p q2 Y u v) : Hal (Y / 4294967296) (Y % 4294967296) u (v / 4294967296) := by
 have h1 := h.Yb
 have h2 := h.ub
 have h3 := h.hv
 exact ⟨by omega, by omega, by omega, by omega, by omega⟩
theorem dU_mod (Y u v : Int) : dU Y u v = (u * 4294967296 + v / 4294967296) % Y := by
 unfold dU dq1 halQ
 rw [Y_two, Int.emod_def, Int.mul_comm Y]
theorem Dv.U {hi lo y : Int} {s : Nat} {p q2 Y u v : Int} (h : Dv hi lo y s p q2 Y u v) : 0 ≤ dU Y u v ∧ dU Y u v < Y := by
 have h1 := h.Yb
 rw [dU_mod]
 exact ⟨Int.emod_nonneg _ (by omega), Int.emod_lt_of_pos _ (by omega)⟩
theorem Dv.hal0 {hi lo y : Int} {s : Nat} {p q2 Y u v : Int} (h : Dv hi lo y s p q2 Y u v) : Hal (Y / 4294967296) (Y % 4294967296) (dU Y u v) (v % 4294967296) := by
 have h1 := h.Yb
 have h2 := h.U
 have h3 := h.hv
 exact ⟨by omega, by omega, by omega, by omega, by omega⟩
theorem Dv.R {hi lo y : Int} {s : Nat} {p q2 Y u v : Int} (h : Dv hi lo y s p q2 Y u v) : 0 ≤ dR Y u v ∧ dR Y u v < Y := by
 have h1 := h.Yb
 have : dR Y u v = (dU Y u v * 4294967296 + v % 4294967296) % Y := by
  unfold dR dq0 halQ
  rw [Y_two, Int.emod_def _ Y, Int.mul_comm Y]
 rw [this]
 exact ⟨Int.emod_nonneg _ (by omega), Int.emod_lt_of_pos _ (by omega)⟩
theorem Dv.all {hi lo y : Int} {s : Nat} {p q2 Y u v : Int} (h : Dv hi lo y s p q2 Y u v) : dq1 Y u v * 4294967296 + dq0 Y u v = (hi * 18446744073709551616 + lo) / y ∧ dR Y u v / p = (hi * 18446744073709551616 + lo) % y ∧ 0 ≤ p := by
 have hR := h.R
 have hYb := h.Yb
 have hp0 : 0 < p := by
  rw [← h.hp]; exact_mod_cast Nat.pow_pos (by decide)
 have hq0 : 0 < q2 := by
  rw [← h.hq2]; exact_mod_cast Nat.pow_pos (by decide)
 have hpq : q2 * p = 18446744073709551616 := by
  rw [← h.hp, ← h.hq2, ← Int.natCast_mul, ← Nat.pow_add, show 64 - s + s = 64 by have := h.s0; omega]; rfl
 have hlo := h.lo0
 unfold InU64 at hlo
 -- the low word, moved
 have hl1 : lo * p = lo / q2 * 18446744073709551616 + lo % q2 * p := by
  have := Int.mul_ediv_add_emod lo q2
  calc lo * p = (q2 * (lo / q2) + lo % q2) * p := by rw [this]
   _ = lo / q2 * (q2 * p) + lo % q2 * p := by rw [Int.add_mul, Int.mul_comm q2, Int.mul_assoc]
   _ = _ := by rw [hpq]
 have hl2 : 0 ≤ lo % q2 * p := Int.mul_nonneg (Int.emod_nonneg _ (by omega)) (by omega)
 have hl3 : lo % q2 * p < 18446744073709551616 := by
  rw [← hpq]; exact Int.mul_lt_mul_of_pos_right (Int.emod_lt_of_pos _ hq0) hp0
 have hv := h.hv
 have hu := h.hu
 have hD : (hi * 18446744073709551616 + lo) * p = u * 18446744073709551616 + v := by
  rw [Int.add_mul, Int.mul_assoc, Int.mul_comm 18446744073709551616 p, ← Int.mul_assoc]
  omega
 have e1 : (hi * 18446744073709551616 + lo) * p = (dq1 Y u v * 4294967296 + dq0 Y u v) * Y + dR Y u v := by
  rw [hD, Int.add_mul, Int.mul_assoc, Int.mul_comm 4294967296 Y, ← Int.mul_assoc]
  unfold dR dU
  omega
 have e2 : (hi * 18446744073709551616 + lo) / y = dq1 Y u v * 4294967296 + dq0 Y u v := by
  have : (hi * 18446744073709551616 + lo) * p / (y * p) = (hi * 18446744073709551616 + lo) / y := Int.mul_ediv_mul_of_pos_left _ _ hp0
  rw [← this, h.hY, e1, Int.add_comm, Int.add_mul_ediv_right _ _ (by omega), Int.ediv_eq_zero_of_lt hR.1 hR.2, Int.zero_add]
 refine ⟨e2.symm, ?_, by omega⟩
 have e3 : dR Y u v = (hi * 18446744073709551616 + lo) % y * p := by
  have : (hi * 18446744073709551616 + lo) * p % (y * p) = (hi * 18446744073709551616 + lo) % y * p := by
   rw [Int.mul_comm _ p, Int.mul_comm y p, Int.mul_emod_mul_of_pos _ _ hp0, Int.mul_comm]
  rw [← this, h.hY, e1, Int.add_comm, Int.add_mul_emod_self_right, Int.emod_eq_of_lt hR.1 hR.2]
 rw [e3, Int.mul_ediv_cancel _ (by omega)]
theorem y46_hcf70 : ∀ args w, (callFunc 70 args).run Try.prog w = .ok (.enter 70 args) w := fun _ _ => by kernel_rfl
theorem avu {m n : Int} (h : m = n) : uA m = uA n := by rw [h]
theorem tup2 {a b c d : Int} (h1 : a = b) (h2 : c = d) : AV.tuple [uA a, uA c] = AV.tuple [uA b, uA d] := by rw [h1, h2]
set_option maxRecDepth 100000 in
set_option maxHeartbeats 4000000 in
theorem div64_walk (hi lo y : Int) (s : Nat) (p q2 Y u v : Int) (h : Dv hi lo y s p q2 Y u v) : FnOk Try.prog 62 [uA hi, uA lo, uA y] (fun q => q = .tuple [uA (dq1 Y u v * 4294967296 + dq0 Y u v), uA (dR Y u v / p)]) := by
 refine fnOk_of (fn := Try.f62) 135 (by kernel_rfl) rfl (by kernel_rfl) (Nat.le_of_ble_eq_true rfl) ?_
 intro e_0 m_0 hA hm_0
 have s0_0 : evA e_0 (.tmp 0) = _ := hA 0 _ rfl
 have s1_0 : evA e_0 (.tmp 1) = _ := hA 1 _ rfl
 have s2_0 : evA e_0 (.tmp 2) = _ := hA 2 _ rfl
 have ml_0 : m_0.length = 0 := by rw [hm_0]; rfl
 clear hA hm_0
 have hlo := h.lo0; have hh := h.hh; have hs := h.s0; have hYb := h.Yb; have hub := h.ub; have hv0 := h.hv; have hor := h.ok; have hip := h.hip; have a1 := h.hal1; have a2 := h.hal0; have hU := h.U; have hR := h.R; have b1 := a1.q; have b2 := a2.q; have f1 := a1.first; have f2 := a2.first; have hall := h.all; unfold InU64 at hlo hip; have g1 : 0 ≤ u / (Y / 4294967296) * (Y / 4294967296) := Int.mul_nonneg (Int.ediv_nonneg hub.1 (by omega)) (by omega); have g2 : 0 ≤ dU Y u v / (Y / 4294967296) * (Y / 4294967296) := Int.mul_nonneg (Int.ediv_nonneg hU.1 (by omega)) (by omega); have hyb : y ≤ Y := (by rw [← h.hY]; have hp1 : (1 : Int) ≤ p := (by rw [← h.hp]; exact_mod_cast Nat.pow_pos (by decide)); have := Int.mul_le_mul_of_nonneg_left hp1 (show 0 ≤ y by omega); omega); have c1 : dq1 Y u v = halQ (Y / 4294967296) (Y % 4294967296) u (v / 4294967296) := rfl; have c2 : dq0 Y u v = halQ (Y / 4294967296) (Y % 4294967296) (dU Y u v) (v % 4294967296) := rfl; have hor2 : OrOk (IntKind.u64.wrap (hi * ((2 ^ min ((s : Int)).toNat IntKind.u64.bits : Nat) : Int))) (lo / ((2 ^ min ((64 : Int) - (s : Int)).toNat IntKind.u64.bits : Nat) : Int)) := (by rw [shp (by omega), shq (by omega), h.hp, h.hq2, wrapU_in h.hip]; exact h.ok)
 refine aw_seq <| at_ <| ar (ro_assign ev_c) rfl <| ar (ro_assign ev_c) rfl <| ae3 (u2 rfl s0_0) (u2 rfl s1_0) (u2 rfl s2_0) ?_; clear s0_0 s1_0 s2_0; intro e_1 s0_1 s1_1 s2_1
 refine then_n <| aw_seq <| aw_seq <| at_ <| ar (ro_move s2_1) rfl <| ar (ro_eql up_h ev_c) rfl ?_
 refine ae4 (u2 rfl s0_1) (u2 rfl s1_1) (u2 rfl s2_1) up_h ?_; clear s0_1 s1_1 s2_1; intro e_2 s0_2 s1_2 s2_2 s20_2
 refine then_n <| aw_case s20_2 (fun hq_3 => ?_) (fun hq_3 => ?_)
 ·replace hq_3 := bt hq_3; exfalso; omega
 replace hq_3 := bf hq_3
 refine aw_skip <| then_n <| aw_seq <| aw_seq <| at_ <| ar (ro_move s2_2) rfl <| ar (ro_move (up_m rfl s0_2)) rfl <| ar (ro_leq (up_m rfl up_h) up_h) rfl <| ae4 (up_m rfl (u2 rfl s0_2)) (up_m rfl (u2 rfl s1_2)) (up_m rfl (u2 rfl s2_2)) up_h ?_; clear s0_2 s1_2 s20_2 s2_2; intro e_4 s0_4 s1_4 s2_4 s24_4
 refine then_n <| aw_case s24_4 (fun hq_5 => ?_) (fun hq_5 => ?_)
 ·replace hq_5 := bt hq_5; exfalso; omega
 replace hq_5 := bf hq_5
 refine aw_skip <| then_n <| aw_seq <| aw_seq <| at_ <| ar (ro_move s0_4) rfl <| ar (ro_eql up_h ev_c) rfl ?_
 refine ae4 (u2 rfl s0_4) (u2 rfl s1_4) (u2 rfl s2_4) up_h ?_; clear s0_4 s1_4 s24_4 s2_4; intro e_6 s0_6 s1_6 s2_6 s27_6
 refine then_n <| aw_case s27_6 (fun hq_7 => ?_) (fun hq_7 => ?_)
 ·replace hq_7 := bt hq_7; exfalso; omega
 replace hq_7 := bf hq_7
 refine aw_skip <| then_n <| aw_seq <| aw_cut (fun e mem => (evA e (.tmp 8) = .v (.int .u64 s)) ∧ (evA e (.tmp 0) = evA e_6 (.tmp 0)) ∧ (evA e (.tmp 1) = evA e_6 (.tmp 1)) ∧ (evA e (.tmp 2) = evA e_6 (.tmp 2)) ∧ m_0 = mem) ?_ ?_
 ·
  refine at_ <| ar (ro_move s2_6) rfl <| ar (ro_call (evL_cons up_h evL_nil) rfl (lead64_ok y ⟨by omega, by omega⟩) y46_hcf70) rfl ?_
  refine ar (ro_cv (k' := .u64) up_h (by kernel_rfl) (by kernel_rfl)) rfl ?_
  refine ar (ro_assign up_h) rfl <| ae4 (u4 rfl s0_6) (u4 rfl s1_6) (u4 rfl s2_6) up_h ?_; intro e_9 s0_9 s1_9 s2_9 s8_9
  refine then_n ⟨(s8_9).trans (by (refine avu ?_; rw [← h.sb]; first | rfl | (rw [wrapU_eq]; have := h.sb; omega))), (s0_9).trans (s0_6).symm, (s1_9).trans (s1_6).symm, (s2_9).trans (s2_6).symm, rfl⟩
 ·rintro e_8 _ ⟨s8_8, k0_8, k1_8, k2_8, rfl⟩
  have s0_8 := k0_8.trans s0_6
  have s1_8 := k1_8.trans s1_6
  have s2_8 := k2_8.trans s2_6
  refine aw_seq <| aw_cut (fun e mem => (evA e (.tmp 2) = .v (.int .u64 Y)) ∧ (evA e (.tmp 0) = evA e_8 (.tmp 0)) ∧ (evA e (.tmp 1) = evA e_8 (.tmp 1)) ∧ (evA e (.tmp 8) = evA e_8 (.tmp 8)) ∧ m_0 = mem) ?_ ?_
  ·
   refine at_ <| ar (ro_move s2_8) rfl <| ar (ro_move (up_m rfl s8_8)) rfl <| ar (ro_shl (up_m rfl up_h) up_h (by omega) rfl) rfl ?_
   refine ar (ro_assign up_h) rfl <| ae4 (u4 rfl s0_8) (u4 rfl s1_8) up_h (u4 rfl s8_8) ?_; intro e_11 s0_11 s1_11 s2_11 s8_11
   refine then_n ⟨(s2_11).trans (by (refine avu ?_; rw [shp (by omega), h.hp, h.hY, wrapU_eq]; omega)), (s0_11).trans (s0_8).symm, (s1_11).trans (s1_8).symm, (s8_11).trans (s8_8).symm, rfl⟩
  ·rintro e_10 _ ⟨s2_10, k0_10, k1_10, k8_10, rfl⟩
   have s0_10 := k0_10.trans s0_8
   have s1_10 := k1_10.trans s1_8
   have s8_10 := k8_10.trans s8_8
   refine aw_seq <| at_ <| ar (ro_move s2_10) rfl <| ar (ro_shr (c := 4294967296) up_h ev_c (by decide) (by decide)) rfl ?_
   refine ar (ro_assign up_h) rfl <| ae5 (up_m rfl (u2 rfl s0_10)) (up_m rfl (u2 rfl s1_10)) (up_m rfl (u2 rfl s2_10)) (up_m rfl (u2 rfl s8_10)) up_h ?_; clear s0_10 s1_10 s2_10 s8_10; intro e_12 s0_12 s1_12 s2_12 s8_12 s9_12
   refine then_n <| aw_seq <| at_ <| ar (ro_move s2_12) rfl ?_
   (refine ar (ro_andL (c := 4294967296) up_h ev_c 32 (by decide) (by decide) (by decide) ?_) rfl ?_; · ((first | unfold In64 | unfold InU64); omega))
   refine ar (ro_assign up_h) rfl <| ae6 (up_m rfl (u2 rfl s0_12)) (up_m rfl (u2 rfl s1_12)) (up_m rfl (u2 rfl s2_12)) (up_m rfl (u2 rfl s8_12)) (up_m rfl (u2 rfl s9_12)) up_h ?_; clear s0_12 s1_12 s2_12 s8_12 s9_12; intro e_13 s0_13 s1_13 s2_13 s8_13 s9_13 s10_13
   refine then_n <| aw_seq <| aw_cut (fun e mem => (evA e (.tmp 11) = .v (.int .u64 u)) ∧ (evA e (.tmp 1) = evA e_13 (.tmp 1)) ∧ (evA e (.tmp 2) = evA e_13 (.tmp 2)) ∧ (evA e (.tmp 8) = evA e_13 (.tmp 8)) ∧ (evA e (.tmp 9) = evA e_13 (.tmp 9)) ∧ (evA e (.tmp 10) = evA e_13 (.tmp 10)) ∧ m_0 = mem) ?_ ?_
   ·
    refine at_ <| ar (ro_move s0_13) rfl <| ar (ro_move (up_m rfl s8_13)) rfl <| ar (ro_shl (up_m rfl up_h) up_h (by omega) rfl) rfl ?_
    refine ar (ro_move (up_m rfl (u2 rfl s1_13))) rfl <| ar (ro_move (u4 rfl s8_13)) rfl ?_
    (refine ar (ro_subU ev_c up_h ?_) rfl ?_; · ((first | unfold In64 | unfold InU64); omega))
    refine ar (ro_shr (u2 rfl up_h) up_h (by omega) rfl) rfl ?_
    refine ar (ro_orU (u4 rfl up_h) up_h (by assumption)) rfl ?_
    refine ar (ro_assign up_h) rfl <| ae6 (up_m rfl (u8 rfl s1_13)) (up_m rfl (u8 rfl s2_13)) (up_m rfl (u8 rfl s8_13)) (up_m rfl (u8 rfl s9_13)) (up_m rfl (u8 rfl s10_13)) up_h ?_; intro e_15 s1_15 s2_15 s8_15 s9_15 s10_15 s11_15
    refine then_n ⟨(s11_15).trans (by (refine avu ?_; rw [shp (by omega), shq (by omega), h.hp, h.hq2, wrapU_in h.hip, h.hu])), (s1_15).trans (s1_13).symm, (s2_15).trans (s2_13).symm, (s8_15).trans (s8_13).symm, (s9_15).trans (s9_13).symm, (s10_15).trans (s10_13).symm, rfl⟩
   ·rintro e_14 _ ⟨s11_14, k1_14, k2_14, k8_14, k9_14, k10_14, rfl⟩
    have s1_14 := k1_14.trans s1_13
    have s2_14 := k2_14.trans s2_13
    have s8_14 := k8_14.trans s8_13
    have s9_14 := k9_14.trans s9_13
    have s10_14 := k10_14.trans s10_13
    refine aw_seq <| aw_cut (fun e mem => (evA e (.tmp 12) = .v (.int .u64 v)) ∧ (evA e (.tmp 2) = evA e_14 (.tmp 2)) ∧ (evA e (.tmp 8) = evA e_14 (.tmp 8)) ∧ (evA e (.tmp 9) = evA e_14 (.tmp 9)) ∧ (evA e (.tmp 10) = evA e_14 (.tmp 10)) ∧ (evA e (.tmp 11) = evA e_14 (.tmp 11)) ∧ m_0 = mem) ?_ ?_
    ·
     refine at_ <| ar (ro_move s1_14) rfl <| ar (ro_move (up_m rfl s8_14)) rfl <| ar (ro_shl (up_m rfl up_h) up_h (by omega) rfl) rfl ?_
     refine ar (ro_assign up_h) rfl <| ae6 (u4 rfl s2_14) (u4 rfl s8_14) (u4 rfl s9_14) (u4 rfl s10_14) (u4 rfl s11_14) up_h ?_; intro e_17 s2_17 s8_17 s9_17 s10_17 s11_17 s12_17
     refine then_n ⟨(s12_17).trans (by (refine avu ?_; rw [shp (by omega), h.hp, wrapU_eq, h.hv])), (s2_17).trans (s2_14).symm, (s8_17).trans (s8_14).symm, (s9_17).trans (s9_14).symm, (s10_17).trans (s10_14).symm, (s11_17).trans (s11_14).symm, rfl⟩
    ·rintro e_16 _ ⟨s12_16, k2_16, k8_16, k9_16, k10_16, k11_16, rfl⟩
     have s2_16 := k2_16.trans s2_14
     have s8_16 := k8_16.trans s8_14
     have s9_16 := k9_16.trans s9_14
     have s10_16 := k10_16.trans s10_14
     have s11_16 := k11_16.trans s11_14
     refine aw_seq <| at_ <| ar (ro_move s12_16) rfl <| ar (ro_shr (c := 4294967296) up_h ev_c (by decide) (by decide)) rfl ?_
     refine ar (ro_assign up_h) rfl <| ae7 (up_m rfl (u2 rfl s2_16)) (up_m rfl (u2 rfl s8_16)) (up_m rfl (u2 rfl s9_16)) (up_m rfl (u2 rfl s10_16)) (up_m rfl (u2 rfl s11_16)) (up_m rfl (u2 rfl s12_16)) up_h ?_; clear s10_16 s11_16 s12_16 s2_16 s8_16 s9_16; intro e_18 s2_18 s8_18 s9_18 s10_18 s11_18 s12_18 s13_18
     refine then_n <| aw_seq <| at_ <| ar (ro_move s12_18) rfl ?_
     (refine ar (ro_andL (c := 4294967296) up_h ev_c 32 (by decide) (by decide) (by decide) ?_) rfl ?_; · ((first | unfold In64 | unfold InU64); omega))
     refine ar (ro_assign up_h) rfl <| ae7 (up_m rfl (u2 rfl s2_18)) (up_m rfl (u2 rfl s8_18)) (up_m rfl (u2 rfl s9_18)) (up_m rfl (u2 rfl s10_18)) (up_m rfl (u2 rfl s11_18)) (up_m rfl (u2 rfl s13_18)) up_h ?_; clear s10_18 s11_18 s12_18 s13_18 s2_18 s8_18 s9_18; intro e_19 s2_19 s8_19 s9_19 s10_19 s11_19 s13_19 s14_19
     refine then_n <| aw_seq <| at_ <| ar (ro_move s11_19) rfl <| ar (ro_move (up_m rfl s9_19)) rfl ?_
     (refine ar (ro_quoU (up_m rfl up_h) up_h (by omega) ?_) rfl ?_; · ((first | unfold In64 | unfold InU64); omega))
     refine ar (ro_assign up_h) rfl <| ae8 (u4 rfl s2_19) (u4 rfl s8_19) (u4 rfl s9_19) (u4 rfl s10_19) (u4 rfl s11_19) (u4 rfl s13_19) (u4 rfl s14_19) up_h ?_; clear s10_19 s11_19 s13_19 s14_19 s2_19 s8_19 s9_19; intro e_20 s2_20 s8_20 s9_20 s10_20 s11_20 s13_20 s14_20 s15_20
     refine then_n <| aw_seq <| at_ <| ar (ro_move s11_20) rfl <| ar (ro_move (up_m rfl s15_20)) rfl <| ar (ro_move (u2 rfl s9_20)) rfl ?_
     (refine ar (ro_mulU (up_m rfl up_h) up_h ?_) rfl ?_; · ((first | unfold In64 | unfold InU64); omega))
     (refine ar (ro_subU (up_m rfl (u2 rfl up_h)) up_h ?_) rfl ?_; · ((first | unfold In64 | unfold InU64); omega))
     refine ar (ro_assign up_h) rfl <| ae9 (u2 rfl (u4 rfl s2_20)) (u2 rfl (u4 rfl s8_20)) (u2 rfl (u4 rfl s9_20)) (u2 rfl (u4 rfl s10_20)) (u2 rfl (u4 rfl s11_20)) (u2 rfl (u4 rfl s13_20)) (u2 rfl (u4 rfl s14_20)) (u2 rfl (u4 rfl s15_20)) up_h ?_; clear s10_20 s11_20 s13_20 s14_20 s15_20 s2_20 s8_20 s9_20; intro e_21 s2_21 s8_21 s9_21 s10_21 s11_21 s13_21 s14_21 s15_21 s16_21
     refine then_n <| aw_seq <| aw_cut (fun e mem => (evA e (.tmp 15) = .v (.int .u64 (dq1 Y u v))) ∧ (evA e (.tmp 2) = evA e_21 (.tmp 2)) ∧ (evA e (.tmp 8) = evA e_21 (.tmp 8)) ∧ (evA e (.tmp 9) = evA e_21 (.tmp 9)) ∧ (evA e (.tmp 10) = evA e_21 (.tmp 10)) ∧ (evA e (.tmp 11) = evA e_21 (.tmp 11)) ∧ (evA e (.tmp 13) = evA e_21 (.tmp 13)) ∧ (evA e (.tmp 14) = evA e_21 (.tmp 14)) ∧ mem.length = 0) ?_ ?_
     ·
      refine aw_block <| aw_loop (S := (Int × Int)) (fun s e mem => match s with | ⟨q, r⟩ => (evA e (.tmp 15) = .v (.int .u64 q)) ∧ (evA e (.tmp 16) = .v (.int .u64 r)) ∧ (evA e (.tmp 2) = evA e_21 (.tmp 2)) ∧ (evA e (.tmp 8) = evA e_21 (.tmp 8)) ∧ (evA e (.tmp 9) = evA e_21 (.tmp 9)) ∧ (evA e (.tmp 10) = evA e_21 (.tmp 10)) ∧ (evA e (.tmp 11) = evA e_21 (.tmp 11)) ∧ (evA e (.tmp 13) = evA e_21 (.tmp 13)) ∧ (evA e (.tmp 14) = evA e_21 (.tmp 14)) ∧ (mem.length = 0) ∧ ((q * (Y / 4294967296) + r = u ∧ dq1 Y u v ≤ q ∧ q ≤ 4294967297 ∧ 0 ≤ r ∧ r < 4294967296))) (fun s => match s with | ⟨q, r⟩ => q.toNat) ⟨_, _⟩ ⟨s15_21, s16_21, rfl, rfl, rfl, rfl, rfl, rfl, rfl, ml_0, ?_⟩ ?_
      ·(exact ⟨by omega, by omega, by omega, by omega, by omega⟩)
      ·rintro ⟨q, r⟩ e_23 m_23 ⟨s15_23, s16_23, k2_23, k8_23, k9_23, k10_23, k11_23, k13_23, k14_23, ml_23, hinv⟩
       have s2_23 := k2_23.trans s2_21
       have s8_23 := k8_23.trans s8_21
       have s9_23 := k9_23.trans s9_21
       have s10_23 := k10_23.trans s10_21
       have s11_23 := k11_23.trans s11_21
       have s13_23 := k13_23.trans s13_21
       have s14_23 := k14_23.trans s14_21
       (obtain ⟨i1, i2, i3, i4, i5⟩ := hinv; have m0 : 0 ≤ q * (Y % 4294967296) ∧ q * (Y % 4294967296) ≤ 18446744073709551615 := (by have e1 := Int.mul_nonneg (show 0 ≤ q by omega) (show 0 ≤ Y % 4294967296 by omega); have e2 := Int.mul_le_mul (show q ≤ 4294967297 by omega) (show Y % 4294967296 ≤ 4294967295 by omega) (by omega) (by omega); omega); have m3 : (q - 1) * (Y / 4294967296) = q * (Y / 4294967296) - Y / 4294967296 := (by rw [Int.sub_mul, Int.one_mul]))
       refine aw_seq <| aw_seq <| at_ <| ar (ro_move s15_23) rfl <| ar (ro_geq up_h ev_c) rfl <| ar (ro_move up_h) rfl <| al_case up_h (fun hb_24 hq_24 => ?_) (fun hb_24 hq_24 => ?_)
       ·replace hq_24 := bt hq_24
        refine al_skip' ⟨_, rfl, .inl hb_24⟩ rfl ?_
        refine al_skip' ⟨_, rfl, .inl (up_m rfl hb_24)⟩ rfl ?_
        refine al_skip' ⟨_, rfl, .inl (u2 rfl hb_24)⟩ rfl ?_
        refine al_skip' ⟨_, rfl, .inl (up_m rfl (u2 rfl hb_24))⟩ rfl ?_
        refine al_skip' ⟨_, rfl, .inl (u4 rfl hb_24)⟩ rfl ?_
        refine al_skip' ⟨_, rfl, .inl (up_m rfl (u4 rfl hb_24))⟩ rfl ?_
        refine al_skip' ⟨_, rfl, .inl (u2 rfl (u4 rfl hb_24))⟩ rfl ?_
        refine al_skip' ⟨_, rfl, .inl (up_m rfl (u2 rfl (u4 rfl hb_24)))⟩ rfl ?_
        refine ar (ro_pickT (u8 rfl hb_24) ev_c) rfl <| ae10 (u4 rfl (u8 rfl s2_23)) (u4 rfl (u8 rfl s8_23)) (u4 rfl (u8 rfl s9_23)) (u4 rfl (u8 rfl s10_23)) (u4 rfl (u8 rfl s11_23)) (u4 rfl (u8 rfl s13_23)) (u4 rfl (u8 rfl s14_23)) (u4 rfl (u8 rfl s15_23)) (u4 rfl (u8 rfl s16_23)) up_h ?_; intro e_25 s2_25 s8_25 s9_25 s10_25 s11_25 s13_25 s14_25 s15_25 s16_25 s78_25
        refine then_n <| aw_true s78_25 <| aw_skip <| then_n <| aw_block <| aw_seq <| at_ <| ar (ro_move s15_25) rfl ?_
        (refine ar (ro_subU up_h ev_c ?_) rfl ?_; · ((first | unfold In64 | unfold InU64); omega))
        refine ar (ro_assign up_h) rfl <| ae9 (up_m rfl (u2 rfl s2_25)) (up_m rfl (u2 rfl s8_25)) (up_m rfl (u2 rfl s9_25)) (up_m rfl (u2 rfl s10_25)) (up_m rfl (u2 rfl s11_25)) (up_m rfl (u2 rfl s13_25)) (up_m rfl (u2 rfl s14_25)) up_h (up_m rfl (u2 rfl s16_25)) ?_; intro e_27 s2_27 s8_27 s9_27 s10_27 s11_27 s13_27 s14_27 s15_27 s16_27
        refine then_n <| aw_seq <| at_ <| ar (ro_move s16_27) rfl <| ar (ro_move (up_m rfl s9_27)) rfl ?_
        (refine ar (ro_addU (up_m rfl up_h) up_h ?_) rfl ?_; · ((first | unfold In64 | unfold InU64); omega))
        refine ar (ro_assign up_h) rfl <| ae9 (u4 rfl s2_27) (u4 rfl s8_27) (u4 rfl s9_27) (u4 rfl s10_27) (u4 rfl s11_27) (u4 rfl s13_27) (u4 rfl s14_27) (u4 rfl s15_27) up_h ?_; intro e_28 s2_28 s8_28 s9_28 s10_28 s11_28 s13_28 s14_28 s15_28 s16_28
        refine then_n <| aw_seq <| at_ <| ar (ro_move s16_28) rfl <| ar (ro_geq up_h ev_c) rfl <| ae10 (u2 rfl s2_28) (u2 rfl s8_28) (u2 rfl s9_28) (u2 rfl s10_28) (u2 rfl s11_28) (u2 rfl s13_28) (u2 rfl s14_28) (u2 rfl s15_28) (u2 rfl s16_28) up_h ?_; intro e_29 s2_29 s8_29 s9_29 s10_29 s11_29 s13_29 s14_29 s15_29 s16_29 s85_29
        refine then_n <| aw_case s85_29 (fun hq_30 => ?_) (fun hq_30 => ?_)
        ·replace hq_30 := bt hq_30
         (have hl := a1.less i1 i2 (.inl (by omega)); have hq1 : q - 1 = dq1 Y u v := a1.far (r := r + Y / 4294967296) (by omega) (by omega) (by omega) (by omega))
         refine aw_exit <| block_miss rfl <| then_x <| block_hit <| then_n ⟨(s15_29).trans (by exact avu hq1), (s2_29).trans (s2_21).symm, (s8_29).trans (s8_21).symm, (s9_29).trans (s9_21).symm, (s10_29).trans (s10_21).symm, (s11_29).trans (s11_21).symm, (s13_29).trans (s13_21).symm, (s14_29).trans (s14_21).symm, ml_23⟩
        replace hq_30 := bf hq_30
        (have hl := a1.less i1 i2 (.inl (by omega)))
        refine aw_skip <| block_n <| then_n <| ⟨⟨_, _⟩, ⟨s15_29, s16_29, (s2_29.trans s2_21.symm), (s8_29.trans s8_21.symm), (s9_29.trans s9_21.symm), (s10_29.trans s10_21.symm), (s11_29.trans s11_21.symm), (s13_29.trans s13_21.symm), (s14_29.trans s14_21.symm), ml_23, ?_⟩, ?_⟩
        ·(exact ⟨by omega, by omega, by omega, by omega, by omega⟩)
        ·((try dsimp only); omega)
       replace hq_24 := bf hq_24
       refine al_ro' (ro_move (up_m rfl (u2 rfl s15_23))) ⟨_, rfl, hb_24⟩ rfl ?_
       refine al_ro' (ro_move (u4 rfl s10_23)) ⟨_, rfl, (up_m rfl hb_24)⟩ rfl ?_
       (refine al_ro' (ro_mulU (up_m rfl up_h) up_h ?_) ⟨_, rfl, (u2 rfl hb_24)⟩ rfl ?_; · ((first | unfold In64 | unfold InU64); omega))
       refine al_ro' (ro_move (u2 rfl (u4 rfl s16_23))) ⟨_, rfl, (up_m rfl (u2 rfl hb_24))⟩ rfl ?_
       (refine al_ro' (ro_mulU ev_c up_h ?_) ⟨_, rfl, (u4 rfl hb_24)⟩ rfl ?_; · ((first | unfold In64 | unfold InU64); omega))
       refine al_ro' (ro_move (u8 rfl s13_23)) ⟨_, rfl, (up_m rfl (u4 rfl hb_24))⟩ rfl ?_
       (refine al_ro' (ro_addU (up_m rfl up_h) up_h ?_) ⟨_, rfl, (u2 rfl (u4 rfl hb_24))⟩ rfl ?_; · ((first | unfold In64 | unfold InU64); omega))
       refine al_ro' (ro_gtr (u4 rfl up_h) up_h) ⟨_, rfl, (up_m rfl (u2 rfl (u4 rfl hb_24)))⟩ rfl ?_
       refine ar (ro_pickF (u8 rfl hb_24) up_h) rfl <| ae10 (u4 rfl (u8 rfl s2_23)) (u4 rfl (u8 rfl s8_23)) (u4 rfl (u8 rfl s9_23)) (u4 rfl (u8 rfl s10_23)) (u4 rfl (u8 rfl s11_23)) (u4 rfl (u8 rfl s13_23)) (u4 rfl (u8 rfl s14_23)) (u4 rfl (u8 rfl s15_23)) (u4 rfl (u8 rfl s16_23)) up_h ?_; intro e_31 s2_31 s8_31 s9_31 s10_31 s11_31 s13_31 s14_31 s15_31 s16_31 s78_31
       refine then_n <| aw_case s78_31 (fun hq_32 => ?_) (fun hq_32 => ?_)
       ·replace hq_32 := bt hq_32
        (have hl := a1.less i1 i2 (.inr (by omega)))
        refine aw_skip <| then_n <| aw_block <| aw_seq <| at_ <| ar (ro_move s15_31) rfl ?_
        (refine ar (ro_subU up_h ev_c ?_) rfl ?_; · ((first | unfold In64 | unfold InU64); omega))
        refine ar (ro_assign up_h) rfl <| ae9 (up_m rfl (u2 rfl s2_31)) (up_m rfl (u2 rfl s8_31)) (up_m rfl (u2 rfl s9_31)) (up_m rfl (u2 rfl s10_31)) (up_m rfl (u2 rfl s11_31)) (up_m rfl (u2 rfl s13_31)) (up_m rfl (u2 rfl s14_31)) up_h (up_m rfl (u2 rfl s16_31)) ?_; intro e_33 s2_33 s8_33 s9_33 s10_33 s11_33 s13_33 s14_33 s15_33 s16_33
        refine then_n <| aw_seq <| at_ <| ar (ro_move s16_33) rfl <| ar (ro_move (up_m rfl s9_33)) rfl ?_
        (refine ar (ro_addU (up_m rfl up_h) up_h ?_) rfl ?_; · ((first | unfold In64 | unfold InU64); omega))
        refine ar (ro_assign up_h) rfl <| ae9 (u4 rfl s2_33) (u4 rfl s8_33) (u4 rfl s9_33) (u4 rfl s10_33) (u4 rfl s11_33) (u4 rfl s13_33) (u4 rfl s14_33) (u4 rfl s15_33) up_h ?_; intro e_34 s2_34 s8_34 s9_34 s10_34 s11_34 s13_34 s14_34 s15_34 s16_34
        refine then_n <| aw_seq <| at_ <| ar (ro_move s16_34) rfl <| ar (ro_geq up_h ev_c) rfl <| ae10 (u2 rfl s2_34) (u2 rfl s8_34) (u2 rfl s9_34) (u2 rfl s10_34) (u2 rfl s11_34) (u2 rfl s13_34) (u2 rfl s14_34) (u2 rfl s15_34) (u2 rfl s16_34) up_h ?_; intro e_35 s2_35 s8_35 s9_35 s10_35 s11_35 s13_35 s14_35 s15_35 s16_35 s85_35
        refine then_n <| aw_case s85_35 (fun hq_36 => ?_) (fun hq_36 => ?_)
        ·replace hq_36 := bt hq_36
         (have hq1 : q - 1 = dq1 Y u v := a1.far (r := r + Y / 4294967296) (by omega) (by omega) (by omega) (by omega))
         refine aw_exit <| block_miss rfl <| then_x <| block_hit <| then_n ⟨(s15_35).trans (by exact avu hq1), (s2_35).trans (s2_21).symm, (s8_35).trans (s8_21).symm, (s9_35).trans (s9_21).symm, (s10_35).trans (s10_21).symm, (s11_35).trans (s11_21).symm, (s13_35).trans (s13_21).symm, (s14_35).trans (s14_21).symm, ml_23⟩
        replace hq_36 := bf hq_36
        refine aw_skip <| block_n <| then_n <| ⟨⟨_, _⟩, ⟨s15_35, s16_35, (s2_35.trans s2_21.symm), (s8_35.trans s8_21.symm), (s9_35.trans s9_21.symm), (s10_35.trans s10_21.symm), (s11_35.trans s11_21.symm), (s13_35.trans s13_21.symm), (s14_35.trans s14_21.symm), ml_23, ?_⟩, ?_⟩
        ·(exact ⟨by omega, by omega, by omega, by omega, by omega⟩)
        ·((try dsimp only); omega)
       replace hq_32 := bf hq_32
       (have hq1 : q = dq1 Y u v := a1.done i1 i2 (by omega))
       refine aw_exit <| then_x <| then_x <| block_hit <| then_n ⟨(s15_31).trans (by exact avu hq1), (s2_31).trans (s2_21).symm, (s8_31).trans (s8_21).symm, (s9_31).trans (s9_21).symm, (s10_31).trans (s10_21).symm, (s11_31).trans (s11_21).symm, (s13_31).trans (s13_21).symm, (s14_31).trans (s14_21).symm, ml_23⟩
     ·rintro e_22 m_22 ⟨s15_22, k2_22, k8_22, k9_22, k10_22, k11_22, k13_22, k14_22, ml_22⟩
      have s2_22 := k2_22.trans s2_21
      have s8_22 := k8_22.trans s8_21
      have s9_22 := k9_22.trans s9_21
      have s10_22 := k10_22.trans s10_21
      have s11_22 := k11_22.trans s11_21
      have s13_22 := k13_22.trans s13_21
      have s14_22 := k14_22.trans s14_21
      refine aw_seq <| aw_cut (fun e mem => (evA e (.tmp 17) = .v (.int .u64 (dU Y u v))) ∧ (evA e (.tmp 2) = evA e_22 (.tmp 2)) ∧ (evA e (.tmp 8) = evA e_22 (.tmp 8)) ∧ (evA e (.tmp 9) = evA e_22 (.tmp 9)) ∧ (evA e (.tmp 10) = evA e_22 (.tmp 10)) ∧ (evA e (.tmp 14) = evA e_22 (.tmp 14)) ∧ (evA e (.tmp 15) = evA e_22 (.tmp 15)) ∧ m_22 = mem) ?_ ?_
      ·
       refine at_ <| ar (ro_move s11_22) rfl <| ar (ro_mul up_h ev_c) rfl <| ar (ro_move (u2 rfl s13_22)) rfl <| ar (ro_add (up_m rfl up_h) up_h) rfl <| ar (ro_move (u4 rfl s15_22)) rfl <| ar (ro_move (up_m rfl (u4 rfl s2_22))) rfl <| ar (ro_mul (up_m rfl up_h) up_h) rfl <| ar (ro_sub (up_m rfl (u2 rfl up_h)) up_h) rfl <| ar (ro_assign up_h) rfl <| ae7 (up_m rfl (u8 rfl s2_22)) (up_m rfl (u8 rfl s8_22)) (up_m rfl (u8 rfl s9_22)) (up_m rfl (u8 rfl s10_22)) (up_m rfl (u8 rfl s14_22)) (up_m rfl (u8 rfl s15_22)) up_h ?_; intro e_38 s2_38 s8_38 s9_38 s10_38 s14_38 s15_38 s17_38
       refine then_n ⟨(s17_38).trans (by (refine avu ?_; simp only [wrapU_eq]; unfold dU at hU ⊢; omega)), (s2_38).trans (s2_22).symm, (s8_38).trans (s8_22).symm, (s9_38).trans (s9_22).symm, (s10_38).trans (s10_22).symm, (s14_38).trans (s14_22).symm, (s15_38).trans (s15_22).symm, rfl⟩
      ·rintro e_37 _ ⟨s17_37, k2_37, k8_37, k9_37, k10_37, k14_37, k15_37, rfl⟩
       have s2_37 := k2_37.trans s2_22
       have s8_37 := k8_37.trans s8_22
       have s9_37 := k9_37.trans s9_22
       have s10_37 := k10_37.trans s10_22
       have s14_37 := k14_37.trans s14_22
       have s15_37 := k15_37.trans s15_22
       refine aw_seq <| at_ <| ar (ro_move s17_37) rfl <| ar (ro_move (up_m rfl s9_37)) rfl ?_
       (refine ar (ro_quoU (up_m rfl up_h) up_h (by omega) ?_) rfl ?_; · ((first | unfold In64 | unfold InU64); omega))
       refine ar (ro_assign up_h) rfl <| ae8 (u4 rfl s2_37) (u4 rfl s8_37) (u4 rfl s9_37) (u4 rfl s10_37) (u4 rfl s14_37) (u4 rfl s15_37) (u4 rfl s17_37) up_h ?_; clear s10_37 s14_37 s15_37 s17_37 s2_37 s8_37 s9_37; intro e_39 s2_39 s8_39 s9_39 s10_39 s14_39 s15_39 s17_39 s18_39
       refine then_n <| aw_seq <| at_ <| ar (ro_move s17_39) rfl <| ar (ro_move (up_m rfl s18_39)) rfl <| ar (ro_move (u2 rfl s9_39)) rfl ?_
       (refine ar (ro_mulU (up_m rfl up_h) up_h ?_) rfl ?_; · ((first | unfold In64 | unfold InU64); omega))
       (refine ar (ro_subU (up_m rfl (u2 rfl up_h)) up_h ?_) rfl ?_; · ((first | unfold In64 | unfold InU64); omega))
       refine ar (ro_assign up_h) rfl <| ae9 (u2 rfl (u4 rfl s2_39)) (u2 rfl (u4 rfl s8_39)) (u2 rfl (u4 rfl s9_39)) (u2 rfl (u4 rfl s10_39)) (u2 rfl (u4 rfl s14_39)) (u2 rfl (u4 rfl s15_39)) up_h (u2 rfl (u4 rfl s17_39)) (u2 rfl (u4 rfl s18_39)) ?_; clear s10_39 s14_39 s15_39 s17_39 s18_39 s2_39 s8_39 s9_39; intro e_40 s2_40 s8_40 s9_40 s10_40 s14_40 s15_40 s16_40 s17_40 s18_40
       refine then_n <| aw_seq <| aw_cut (fun e mem => (evA e (.tmp 18) = .v (.int .u64 (dq0 Y u v))) ∧ (evA e (.tmp 2) = evA e_40 (.tmp 2)) ∧ (evA e (.tmp 8) = evA e_40 (.tmp 8)) ∧ (evA e (.tmp 14) = evA e_40 (.tmp 14)) ∧ (evA e (.tmp 15) = evA e_40 (.tmp 15)) ∧ (evA e (.tmp 17) = evA e_40 (.tmp 17)) ∧ mem.length = 0) ?_ ?_
       ·
        refine aw_block <| aw_loop (S := (Int × Int)) (fun s e mem => match s with | ⟨x, z⟩ => (evA e (.tmp 18) = .v (.int .u64 x)) ∧ (evA e (.tmp 16) = .v (.int .u64 z)) ∧ (evA e (.tmp 2) = evA e_40 (.tmp 2)) ∧ (evA e (.tmp 8) = evA e_40 (.tmp 8)) ∧ (evA e (.tmp 9) = evA e_40 (.tmp 9)) ∧ (evA e (.tmp 10) = evA e_40 (.tmp 10)) ∧ (evA e (.tmp 14) = evA e_40 (.tmp 14)) ∧ (evA e (.tmp 15) = evA e_40 (.tmp 15)) ∧ (evA e (.tmp 17) = evA e_40 (.tmp 17)) ∧ (mem.length = 0) ∧ ((x * (Y / 4294967296) + z = dU Y u v ∧ dq0 Y u v ≤ x ∧ x ≤ 4294967297 ∧ 0 ≤ z ∧ z < 4294967296))) (fun s => match s with | ⟨x, z⟩ => x.toNat) ⟨_, _⟩ ⟨s18_40, s16_40, rfl, rfl, rfl, rfl, rfl, rfl, rfl, ml_22, ?_⟩ ?_
        ·(exact ⟨by omega, by omega, by omega, by omega, by omega⟩)
        ·rintro ⟨x, z⟩ e_42 m_42 ⟨s18_42, s16_42, k2_42, k8_42, k9_42, k10_42, k14_42, k15_42, k17_42, ml_42, hinv⟩
         have s2_42 := k2_42.trans s2_40
         have s8_42 := k8_42.trans s8_40
         have s9_42 := k9_42.trans s9_40
         have s10_42 := k10_42.trans s10_40
         have s14_42 := k14_42.trans s14_40
         have s15_42 := k15_42.trans s15_40
         have s17_42 := k17_42.trans s17_40
         (obtain ⟨k1, k2, k3, k4, k5⟩ := hinv; have n0 : 0 ≤ x * (Y % 4294967296) ∧ x * (Y % 4294967296) ≤ 18446744073709551615 := (by have e1 := Int.mul_nonneg (show 0 ≤ x by omega) (show 0 ≤ Y % 4294967296 by omega); have e2 := Int.mul_le_mul (show x ≤ 4294967297 by omega) (show Y % 4294967296 ≤ 4294967295 by omega) (by omega) (by omega); omega); have n3 : (x - 1) * (Y / 4294967296) = x * (Y / 4294967296) - Y / 4294967296 := (by rw [Int.sub_mul, Int.one_mul]))
         refine aw_seq <| aw_seq <| at_ <| ar (ro_move s18_42) rfl <| ar (ro_geq up_h ev_c) rfl <| ar (ro_move up_h) rfl <| al_case up_h (fun hb_43 hq_43 => ?_) (fun hb_43 hq_43 => ?_)
         ·replace hq_43 := bt hq_43
          refine al_skip' ⟨_, rfl, .inl hb_43⟩ rfl ?_
          refine al_skip' ⟨_, rfl, .inl (up_m rfl hb_43)⟩ rfl ?_
          refine al_skip' ⟨_, rfl, .inl (u2 rfl hb_43)⟩ rfl ?_
          refine al_skip' ⟨_, rfl, .inl (up_m rfl (u2 rfl hb_43))⟩ rfl ?_
          refine al_skip' ⟨_, rfl, .inl (u4 rfl hb_43)⟩ rfl ?_
          refine al_skip' ⟨_, rfl, .inl (up_m rfl (u4 rfl hb_43))⟩ rfl ?_
          refine al_skip' ⟨_, rfl, .inl (u2 rfl (u4 rfl hb_43))⟩ rfl ?_
          refine al_skip' ⟨_, rfl, .inl (up_m rfl (u2 rfl (u4 rfl hb_43)))⟩ rfl ?_
          refine ar (ro_pickT (u8 rfl hb_43) ev_c) rfl <| ae10 (u4 rfl (u8 rfl s2_42)) (u4 rfl (u8 rfl s8_42)) (u4 rfl (u8 rfl s9_42)) (u4 rfl (u8 rfl s10_42)) (u4 rfl (u8 rfl s14_42)) (u4 rfl (u8 rfl s15_42)) (u4 rfl (u8 rfl s16_42)) (u4 rfl (u8 rfl s17_42)) (u4 rfl (u8 rfl s18_42)) up_h ?_; intro e_44 s2_44 s8_44 s9_44 s10_44 s14_44 s15_44 s16_44 s17_44 s18_44 s113_44
          refine then_n <| aw_true s113_44 <| aw_skip <| then_n <| aw_block <| aw_seq <| at_ <| ar (ro_move s18_44) rfl ?_
          (refine ar (ro_subU up_h ev_c ?_) rfl ?_; · ((first | unfold In64 | unfold InU64); omega))
          refine ar (ro_assign up_h) rfl <| ae9 (up_m rfl (u2 rfl s2_44)) (up_m rfl (u2 rfl s8_44)) (up_m rfl (u2 rfl s9_44)) (up_m rfl (u2 rfl s10_44)) (up_m rfl (u2 rfl s14_44)) (up_m rfl (u2 rfl s15_44)) (up_m rfl (u2 rfl s16_44)) (up_m rfl (u2 rfl s17_44)) up_h ?_; intro e_46 s2_46 s8_46 s9_46 s10_46 s14_46 s15_46 s16_46 s17_46 s18_46
          refine then_n <| aw_seq <| at_ <| ar (ro_move s16_46) rfl <| ar (ro_move (up_m rfl s9_46)) rfl ?_
          (refine ar (ro_addU (up_m rfl up_h) up_h ?_) rfl ?_; · ((first | unfold In64 | unfold InU64); omega))
          refine ar (ro_assign up_h) rfl <| ae9 (u4 rfl s2_46) (u4 rfl s8_46) (u4 rfl s9_46) (u4 rfl s10_46) (u4 rfl s14_46) (u4 rfl s15_46) up_h (u4 rfl s17_46) (u4 rfl s18_46) ?_; intro e_47 s2_47 s8_47 s9_47 s10_47 s14_47 s15_47 s16_47 s17_47 s18_47
          refine then_n <| aw_seq <| at_ <| ar (ro_move s16_47) rfl <| ar (ro_geq up_h ev_c) rfl <| ae10 (u2 rfl s2_47) (u2 rfl s8_47) (u2 rfl s9_47) (u2 rfl s10_47) (u2 rfl s14_47) (u2 rfl s15_47) (u2 rfl s16_47) (u2 rfl s17_47) (u2 rfl s18_47) up_h ?_; intro e_48 s2_48 s8_48 s9_48 s10_48 s14_48 s15_48 s16_48 s17_48 s18_48 s120_48
          refine then_n <| aw_case s120_48 (fun hq_49 => ?_) (fun hq_49 => ?_)
          ·replace hq_49 := bt hq_49
           (have hl2 := a2.less k1 k2 (.inl (by omega)); have hq2 : x - 1 = dq0 Y u v := a2.far (r := z + Y / 4294967296) (by omega) (by omega) (by omega) (by omega))
           refine aw_exit <| block_miss rfl <| then_x <| block_hit <| then_n ⟨(s18_48).trans (by exact avu hq2), (s2_48).trans (s2_40).symm, (s8_48).trans (s8_40).symm, (s14_48).trans (s14_40).symm, (s15_48).trans (s15_40).symm, (s17_48).trans (s17_40).symm, ml_42⟩
          replace hq_49 := bf hq_49
          (have hl2 := a2.less k1 k2 (.inl (by omega)))
          refine aw_skip <| block_n <| then_n <| ⟨⟨_, _⟩, ⟨s18_48, s16_48, (s2_48.trans s2_40.symm), (s8_48.trans s8_40.symm), (s9_48.trans s9_40.symm), (s10_48.trans s10_40.symm), (s14_48.trans s14_40.symm), (s15_48.trans s15_40.symm), (s17_48.trans s17_40.symm), ml_42, ?_⟩, ?_⟩
          ·(exact ⟨by omega, by omega, by omega, by omega, by omega⟩)
          ·((try dsimp only); omega)
         replace hq_43 := bf hq_43
         refine al_ro' (ro_move (up_m rfl (u2 rfl s18_42))) ⟨_, rfl, hb_43⟩ rfl ?_
         refine al_ro' (ro_move (u4 rfl s10_42)) ⟨_, rfl, (up_m rfl hb_43)⟩ rfl ?_
         (refine al_ro' (ro_mulU (up_m rfl up_h) up_h ?_) ⟨_, rfl, (u2 rfl hb_43)⟩ rfl ?_; · ((first | unfold In64 | unfold InU64); omega))
         refine al_ro' (ro_move (u2 rfl (u4 rfl s16_42))) ⟨_, rfl, (up_m rfl (u2 rfl hb_43))⟩ rfl ?_
         (refine al_ro' (ro_mulU ev_c up_h ?_) ⟨_, rfl, (u4 rfl hb_43)⟩ rfl ?_; · ((first | unfold In64 | unfold InU64); omega))
         refine al_ro' (ro_move (u8 rfl s14_42)) ⟨_, rfl, (up_m rfl (u4 rfl hb_43))⟩ rfl ?_
         (refine al_ro' (ro_addU (up_m rfl up_h) up_h ?_) ⟨_, rfl, (u2 rfl (u4 rfl hb_43))⟩ rfl ?_; · ((first | unfold In64 | unfold InU64); omega))
         refine al_ro' (ro_gtr (u4 rfl up_h) up_h) ⟨_, rfl, (up_m rfl (u2 rfl (u4 rfl hb_43)))⟩ rfl ?_
         refine ar (ro_pickF (u8 rfl hb_43) up_h) rfl <| ae10 (u4 rfl (u8 rfl s2_42)) (u4 rfl (u8 rfl s8_42)) (u4 rfl (u8 rfl s9_42)) (u4 rfl (u8 rfl s10_42)) (u4 rfl (u8 rfl s14_42)) (u4 rfl (u8 rfl s15_42)) (u4 rfl (u8 rfl s16_42)) (u4 rfl (u8 rfl s17_42)) (u4 rfl (u8 rfl s18_42)) up_h ?_; intro e_50 s2_50 s8_50 s9_50 s10_50 s14_50 s15_50 s16_50 s17_50 s18_50 s113_50
         refine then_n <| aw_case s113_50 (fun hq_51 => ?_) (fun hq_51 => ?_)
         ·replace hq_51 := bt hq_51
          (have hl2 := a2.less k1 k2 (.inr (by omega)))
          refine aw_skip <| then_n <| aw_block <| aw_seq <| at_ <| ar (ro_move s18_50) rfl ?_
          (refine ar (ro_subU up_h ev_c ?_) rfl ?_; · ((first | unfold In64 | unfold InU64); omega))
          refine ar (ro_assign up_h) rfl <| ae9 (up_m rfl (u2 rfl s2_50)) (up_m rfl (u2 rfl s8_50)) (up_m rfl (u2 rfl s9_50)) (up_m rfl (u2 rfl s10_50)) (up_m rfl (u2 rfl s14_50)) (up_m rfl (u2 rfl s15_50)) (up_m rfl (u2 rfl s16_50)) (up_m rfl (u2 rfl s17_50)) up_h ?_; intro e_52 s2_52 s8_52 s9_52 s10_52 s14_52 s15_52 s16_52 s17_52 s18_52
          refine then_n <| aw_seq <| at_ <| ar (ro_move s16_52) rfl <| ar (ro_move (up_m rfl s9_52)) rfl ?_
          (refine ar (ro_addU (up_m rfl up_h) up_h ?_) rfl ?_; · ((first | unfold In64 | unfold InU64); omega))
          refine ar (ro_assign up_h) rfl <| ae9 (u4 rfl s2_52) (u4 rfl s8_52) (u4 rfl s9_52) (u4 rfl s10_52) (u4 rfl s14_52) (u4 rfl s15_52) up_h (u4 rfl s17_52) (u4 rfl s18_52) ?_; intro e_53 s2_53 s8_53 s9_53 s10_53 s14_53 s15_53 s16_53 s17_53 s18_53
          refine then_n <| aw_seq <| at_ <| ar (ro_move s16_53) rfl <| ar (ro_geq up_h ev_c) rfl <| ae10 (u2 rfl s2_53) (u2 rfl s8_53) (u2 rfl s9_53) (u2 rfl s10_53) (u2 rfl s14_53) (u2 rfl s15_53) (u2 rfl s16_53) (u2 rfl s17_53) (u2 rfl s18_53) up_h ?_; intro e_54 s2_54 s8_54 s9_54 s10_54 s14_54 s15_54 s16_54 s17_54 s18_54 s120_54
          refine then_n <| aw_case s120_54 (fun hq_55 => ?_) (fun hq_55 => ?_)
          ·replace hq_55 := bt hq_55
           (have hq2 : x - 1 = dq0 Y u v := a2.far (r := z + Y / 4294967296) (by omega) (by omega) (by omega) (by omega))
           refine aw_exit <| block_miss rfl <| then_x <| block_hit <| then_n ⟨(s18_54).trans (by exact avu hq2), (s2_54).trans (s2_40).symm, (s8_54).trans (s8_40).symm, (s14_54).trans (s14_40).symm, (s15_54).trans (s15_40).symm, (s17_54).trans (s17_40).symm, ml_42⟩
          replace hq_55 := bf hq_55
          refine aw_skip <| block_n <| then_n <| ⟨⟨_, _⟩, ⟨s18_54, s16_54, (s2_54.trans s2_40.symm), (s8_54.trans s8_40.symm), (s9_54.trans s9_40.symm), (s10_54.trans s10_40.symm), (s14_54.trans s14_40.symm), (s15_54.trans s15_40.symm), (s17_54.trans s17_40.symm), ml_42, ?_⟩, ?_⟩
          ·(exact ⟨by omega, by omega, by omega, by omega, by omega⟩)
          ·((try dsimp only); omega)
         replace hq_51 := bf hq_51
         (have hq2 : x = dq0 Y u v := a2.done k1 k2 (by omega))
         refine aw_exit <| then_x <| then_x <| block_hit <| then_n ⟨(s18_50).trans (by exact avu hq2), (s2_50).trans (s2_40).symm, (s8_50).trans (s8_40).symm, (s14_50).trans (s14_40).symm, (s15_50).trans (s15_40).symm, (s17_50).trans (s17_40).symm, ml_42⟩
       ·rintro e_41 m_41 ⟨s18_41, k2_41, k8_41, k14_41, k15_41, k17_41, ml_41⟩
        have s2_41 := k2_41.trans s2_40
        have s8_41 := k8_41.trans s8_40
        have s14_41 := k14_41.trans s14_40
        have s15_41 := k15_41.trans s15_40
        have s17_41 := k17_41.trans s17_40
        refine aw_seq <| at_ <| ar (ro_move s15_41) rfl ?_
        (refine ar (ro_mulU up_h ev_c ?_) rfl ?_; · ((first | unfold In64 | unfold InU64); omega))
        refine ar (ro_move (u2 rfl s18_41)) rfl ?_
        (refine ar (ro_addU (up_m rfl up_h) up_h ?_) rfl ?_; · ((first | unfold In64 | unfold InU64); omega))
        refine ar (ro_move (u4 rfl s17_41)) rfl <| ar (ro_mul up_h ev_c) rfl <| ar (ro_move (u2 rfl (u4 rfl s14_41))) rfl <| ar (ro_add (up_m rfl up_h) up_h) rfl <| ar (ro_move (u8 rfl s18_41)) rfl <| ar (ro_move (up_m rfl (u8 rfl s2_41))) rfl <| ar (ro_mul (up_m rfl up_h) up_h) rfl <| ar (ro_sub (up_m rfl (u2 rfl up_h)) up_h) rfl <| ar (ro_move (u4 rfl (u8 rfl s8_41))) rfl <| ar (ro_shr (up_m rfl up_h) up_h (by omega) rfl) rfl ?_
        refine ar (ro_assign (u2 rfl (u8 rfl up_h))) rfl <| ar (ro_assign (up_m rfl up_h)) rfl <| ae2 (up_m rfl up_h) up_h ?_; clear s14_41 s15_41 s17_41 s18_41 s2_41 s8_41; intro e_56 s6_56 s7_56
        refine then_n <| aw_ret <| ret2 (.inr rfl) (by kernel_rfl) (resV_tmp s6_56) (resV_tmp s7_56) (.ro _ rfl) (.ro _ rfl) ?_
        clear s6_56 s7_56 ml_41
        (refine tup2 ?_ ?_; (first | rfl | (simp only [wrapU_eq]; omega)); rw [shp (by omega), h.hp]; refine congrArg (· / p) ?_; simp only [wrapU_eq]; unfold dR at hR ⊢; omega)
theorem y27_bz66 : (Try.prog.info? 66).bind (·.zero) = some (.agg #[.int .i64 0, .int .i64 0, .int .i64 0, .int .i64 0]) := by kernel_rfl
theorem y27_bu66 : Try.prog.underlying 66 = some (.struct (fsOf Try.prog 66)) := by kernel_rfl
theorem y27_bp66 : ∀ w, ((fsOf Try.prog 66).mapM fun f => Prod.mk f.offset <$> sizeOf f.type : Sem (Array (Nat × Nat))).run Try.prog w = .ok (#[(0, 1), (1, 1), (2, 2)]) w := fun _ => by kernel_rfl
theorem y27_bz69 : (Try.prog.info? 69).bind (·.zero) = some (.agg #[.int .i64 0, .int .i64 0]) := by kernel_rfl
theorem y27_bu69 : Try.prog.underlying 69 = some (.struct (fsOf Try.prog 69)) := by kernel_rfl
theorem y27_bp69 : ∀ w, ((fsOf Try.prog 69).mapM fun f => Prod.mk f.offset <$> sizeOf f.type : Sem (Array (Nat × Nat))).run Try.prog w = .ok (#[(0, 1), (1, 1)]) w := fun _ => by kernel_rfl
theorem y27_sl22 : SlIs Try.prog 22 66 4 32 (.agg #[.int .i64 0, .int .i64 0, .int .i64 0, .int .i64 0]) := ⟨by kernel_rfl, by kernel_rfl, by kernel_rfl⟩
theorem y27_sl23 : SlIs Try.prog 23 69 2 16 (.agg #[.int .i64 0, .int .i64 0]) := ⟨by kernel_rfl, by kernel_rfl, by kernel_rfl⟩
theorem y27_ty26 : TyIs Try.prog 26 true 4 := ⟨by kernel_rfl, by kernel_rfl⟩
def lin0 : Lin := ⟨⟨#[115, 104, 111, 114, 116]⟩, [⟨0, 0, 0, 0⟩, ⟨0, 100, 0, 0⟩, ⟨200, 100, 0, 0⟩], [⟨10000, 0⟩, ⟨10000, 100⟩], []⟩
set_option maxRecDepth 100000 in
set_option maxHeartbeats 1000000 in
theorem lin0_ok : FnOk Try.prog 23 [] (fun q => q = lnA lin0) := by
 refine fnOk_of (fn := Try.f23) 9 (by kernel_rfl) rfl (by kernel_rfl) (Nat.le_of_ble_eq_true rfl) ?_
 intro e_0 m_0 hA hm_0
 have ml_0 : m_0.length = 0 := by rw [hm_0]; rfl
 clear hA hm_0
 refine aw_seq <| at_ <| al_stm (st_alloc qaz26 rfl ml_0) trivial rfl (fun m_1 hm_1 => ?_)
 have mo0_1 := m_push hm_1 ml_0
 simp only [pS, Value.cells, Nat.reduceAdd] at mo0_1
 have ml_1 := m_push_l hm_1 ml_0
 have ml_1 : _ = 1 := ml_1
 clear hm_1
 refine ae1 up_h ?_; intro e_2 s0_2
 refine then_n <| aw_seq <| at_ <| ar (ro_build evP_nil y27_bz66 y27_bu66 y27_bp66 rfl) rfl ?_
 refine ar (ro_build (evP_cons ev_c evP_nil) y27_bz66 y27_bu66 y27_bp66 rfl) rfl ?_
 refine ar (ro_build (evP_cons ev_c (evP_cons ev_c evP_nil)) y27_bz66 y27_bu66 y27_bp66 rfl) rfl ?_
 refine ar (ro_lit y27_sl22 (evP_cons (u2 rfl up_h) (evP_cons (up_m rfl up_h) (evP_cons up_h evP_nil))) rfl rfl rfl rfl) rfl <| ar (ro_build (evP_cons ev_c evP_nil) y27_bz69 y27_bu69 y27_bp69 rfl) rfl ?_
 refine ar (ro_build (evP_cons ev_c (evP_cons ev_c evP_nil)) y27_bz69 y27_bu69 y27_bp69 rfl) rfl ?_
 refine ar (ro_lit y27_sl23 (evP_cons (up_m rfl up_h) (evP_cons up_h evP_nil)) rfl rfl rfl rfl) rfl <| ar (ro_build (evP_cons ev_c (evP_cons (up_m rfl (u2 rfl up_h)) (evP_cons up_h evP_nil))) qbz26 qbu26 qbp26 rfl) rfl ?_
 refine al_stm (st_store (u8 rfl s0_2) up_h rfl rfl mo0_1 qsz26 rfl (nle rfl)) trivial rfl (fun m_3 hm_3 => ?_)
 have mo0_3 := m_set hm_3 mo0_1
 simp only [pS, Value.cells, Nat.reduceAdd] at mo0_3
 have ml_3 := m_set_l hm_3 ml_1
 clear hm_3 mo0_1
 refine ae1 (up_n (u8 rfl s0_2)) ?_; clear s0_2; intro e_4 s0_4
 refine then_n <| aw_ret <| ret1 (.inr rfl) (by kernel_rfl) (resV_cell s0_4 mo0_3 y27_ty26 (nle rfl) (by simp)) (vw_r (vw_agg (vwl_cons (.ro _ rfl) (vwl_cons (.ro _ rfl) (vwl_cons (.ro _ rfl) (vwl_cons (.nil 3) vwl_nil)))))) ?_
 clear s0_4 mo0_3 ml_3
 rfl
theorem lin0_sho : Sho lin0 := ⟨by decide, by decide, by decide, by decide, by intro s hs; cases hs⟩
theorem lin0_good : (linM lin0).2 = 0 := by kernel_rfl
theorem lim0_ok : FnOk Try.prog 24 [lnA lin0, mA 1000, mA 1] (fun q => q = .tuple [mA 745250000, mA 0]) :=
 (limitAt_good lin0 lin0_sho lin0_good 1000 1 (fun hs n hn => by
  obtain rfl : n = 1 := by
   have : lin0.js.length = 3 := rfl
   omega
  exact limit_low lin0 (rgt_of lin0_good) 1000 (by decide) 1 (by decide) (by decide))).mono fun q h => h.trans (by kernel_rfl)
theorem dev0_ok : FnOk Try.prog 25 [lnA lin0, vehA 10000 60 2500, .agg [mA 2500, mA 1]] (fun q => q = .tuple [.agg [mA (-38), mA (-37)], mA 0]) :=
 (deviationAt_good lin0 lin0_sho lin0_good 10000 60 2500 2500 1 (by decide) (by decide)).mono fun q h => h.trans (by kernel_rfl)
theorem y47_sl100 : SlIs Try.prog 100 29 1 8 (.int .i64 0) := ⟨by kernel_rfl, by kernel_rfl, by kernel_rfl⟩
theorem y47_sl22 : SlIs Try.prog 22 66 4 32 (.agg #[.int .i64 0, .int .i64 0, .int .i64 0, .int .i64 0]) := ⟨by kernel_rfl, by kernel_rfl, by kernel_rfl⟩
theorem y47_sl23 : SlIs Try.prog 23 69 2 16 (.agg #[.int .i64 0, .int .i64 0]) := ⟨by kernel_rfl, by kernel_rfl, by kernel_rfl⟩
theorem y47_sl40 : SlIs Try.prog 40 3 1 8 (.int .i64 0) := ⟨by kernel_rfl, by kernel_rfl, by kernel_rfl⟩
theorem y47_ty22 : TyIs Try.prog 22 false 1 := ⟨by kernel_rfl, by kernel_rfl⟩
theorem y47_ty23 : TyIs Try.prog 23 false 1 := ⟨by kernel_rfl, by kernel_rfl⟩
theorem y47_ty26 : TyIs Try.prog 26 true 4 := ⟨by kernel_rfl, by kernel_rfl⟩
theorem y47_ty3 : TyIs Try.prog 3 false 1 := ⟨by kernel_rfl, by kernel_rfl⟩
theorem y47_ty69 : TyIs Try.prog 69 true 2 := ⟨by kernel_rfl, by kernel_rfl⟩
set_option maxRecDepth 100000 in
set_option maxHeartbeats 4000000 in
theorem div64_ok (hi lo y : Int) (hlo : InU64 lo) (hh : 1 ≤ hi ∧ hi < y) (hy : y < 4611686018427387904) : FnOk Try.prog 62 [uA hi, uA lo, uA y] (fun q => q = .tuple [uA ((hi * 18446744073709551616 + lo) / y), uA ((hi * 18446744073709551616 + lo) % y)]) := by
 obtain ⟨s, p, q2, Y, u, v, h⟩ := dv_of hlo hh hy
 obtain ⟨e1, e2, _⟩ := h.all
 rw [← e1, ← e2]
 exact div64_walk hi lo y s p q2 Y u v h
set_option maxRecDepth 100000 in
set_option maxHeartbeats 4000000 in
theorem limit_high (l : Lin) (h : Rgt l) (s : Int) (hs : 0 ≤ s ∧ s ≤ 5000) (j : Nat) (hj : 1 ≤ j ∧ j + 2 ≤ l.js.length) (hu : 18446744073709551616 ≤ limU l s j) : FnOk Try.prog 39 [tkA l, mA s, mA j] (fun q => q = mA (limV l s j)) := by
 refine fnOk_of (fn := Try.f39) 88 (by kernel_rfl) rfl (by kernel_rfl) (Nat.le_of_ble_eq_true rfl) ?_
 intro e_0 m_0 hA hm_0
 have s0_0 : evA e_0 (.tmp 0) = _ := hA 0 _ rfl
 have s1_0 : evA e_0 (.tmp 1) = _ := hA 1 _ rfl
 have s2_0 : evA e_0 (.tmp 2) = _ := hA 2 _ rfl
 have ml_0 : m_0.length = 0 := by rw [hm_0]; rfl
 clear hA hm_0
 have hn1 := h.n1; have hn0 := h.n0; have hjs := h.js; have b1 := h.bea (j - 1) (by omega); have b2 := h.bea j (by omega); obtain ⟨e1, e2, e3⟩ := ben_bd h hj; obtain ⟨e4, e5⟩ := hel_bd h hj hs
 refine aw_seq <| at_ <| ar (ro_assign ev_c) rfl <| ae3 (up_m rfl s0_0) (up_m rfl s1_0) (up_m rfl s2_0) ?_; clear s0_0 s1_0 s2_0; intro e_1 s0_1 s1_1 s2_1
 refine then_n <| aw_seq <| at_ <| ar (ro_move s0_1) rfl <| ar (ro_move (up_m rfl s2_1)) rfl <| ar (ro_call (evL_cons (up_m rfl up_h) (evL_cons up_h evL_nil)) rfl (bend_ok l h j hj) qhcf59) rfl <| ar (ro_move up_h) rfl <| ar (ro_extract up_h rfl) rfl <| ar (ro_extract (up_m rfl up_h) rfl) rfl <| ar (ro_assign (up_m rfl up_h)) rfl <| ar (ro_assign (up_m rfl up_h)) rfl <| ae5 (u8 rfl s0_1) (u8 rfl s1_1) (u8 rfl s2_1) (up_m rfl up_h) up_h ?_; clear s0_1 s1_1 s2_1; intro e_2 s0_2 s1_2 s2_2 s7_2 s8_2
 refine then_n <| aw_seq <| aw_seq <| at_ <| ar (ro_move s7_2) rfl <| ar (ro_eql up_h ev_c) rfl ?_
 refine ae6 (u2 rfl s0_2) (u2 rfl s1_2) (u2 rfl s2_2) (u2 rfl s7_2) (u2 rfl s8_2) up_h ?_; clear s0_2 s1_2 s2_2 s7_2 s8_2; intro e_3 s0_3 s1_3 s2_3 s7_3 s8_3 s24_3
 refine then_n <| aw_case s24_3 (fun hq_4 => ?_) (fun hq_4 => ?_)
 ·replace hq_4 := bt hq_4
  refine aw_seq <| at_ <| ar (ro_assign ev_c) rfl <| ae1 up_h ?_; clear s0_3 s1_3 s24_3 s2_3 s7_3 s8_3; intro e_5 s6_5
  refine then_n <| aw_ret <| then_r <| ret1 (.inr rfl) (by kernel_rfl) (resV_tmp s6_5) (.ro _ rfl) ?_
  clear s6_5 ml_0
  (rw [limV, if_pos (by assumption)])
 replace hq_4 := bf hq_4
 refine aw_skip <| then_n <| aw_seq <| aw_drawK 20 2 ml_0 (by kernel_rfl) (by kernel_rfl) (by kernel_rfl) (by kernel_rfl) (fun m_6 hm_6 => ?_)
 have mo0_6 : m_6[0]? = _ := m_room_g hm_6 ml_0 0 rfl rfl
 have mo1_6 : m_6[1]? = _ := m_room_g hm_6 ml_0 1 rfl rfl
 have ml_6 : _ = 2 := m_room_l (K := 2) hm_6 ml_0
 clear hm_6 ml_0
 refine dh_ro (fun M_ hM_ => (ro_move s0_3)) trivial ?_
 refine dh_ro (fun M_ hM_ => (ro_nilR up_h)) trivial ?_
 refine dh_ro (fun M_ hM_ => (ro_eq (ro_fld_ref qfl83_0 rfl up_h) (by simp only [pS, Value.cells, Nat.reduceAdd, jnE, beE, Int.toNat_natCast, toNat_suc, toNat_pre] <;> rfl))) trivial ?_
 refine dh_ro (fun M_ hM_ => (ro_eq (ro_fld_ref qfl26_2 rfl up_h) (by simp only [pS, Value.cells, Nat.reduceAdd, jnE, beE, Int.toNat_natCast, toNat_suc, toNat_pre] <;> rfl))) trivial ?_
 refine dh_ro (fun M_ hM_ => (ro_eq (ro_ld_ref y47_ty23 rfl up_h (nle rfl)) (by simp only [pS, Value.cells, Nat.reduceAdd, jnE, beE, Int.toNat_natCast, toNat_suc, toNat_pre] <;> rfl))) trivial ?_
 refine dh_ro (fun M_ hM_ => (ro_move (up_m rfl (u4 rfl s2_3)))) trivial ?_
 (refine dh_ro (fun M_ hM_ => (ro_sub' up_h ev_c ?_)) trivial ?_; · ((first | unfold In64 | unfold InU64); omega))
 refine dh_ro (fun M_ hM_ => (ro_eq (ro_ix y47_sl23 (u2 rfl up_h) up_h (by omega) (by first | (refine idx_map ?_; first | omega | (simp only [lnS]; omega)) | (refine idx_mapI ?_; first | omega | (simp only [lnS]; omega)) | (refine idx_mapN ?_; first | omega | (simp only [lnS]; omega)) | rfl)) (by simp only [pS, Value.cells, Nat.reduceAdd, jnE, beE, Int.toNat_natCast, toNat_suc, toNat_pre] <;> rfl))) trivial ?_
 refine dh_ro (fun M_ hM_ => (ro_eq (ro_ld_ref y47_ty69 rfl up_h (nle rfl)) (by simp only [pS, Value.cells, Nat.reduceAdd, jnE, beE, Int.toNat_natCast, toNat_suc, toNat_pre] <;> rfl))) trivial ?_
 refine dh_ro (fun M_ hM_ => (ro_move (up_m rfl (u8 rfl s0_3)))) trivial ?_
 refine dh_ro (fun M_ hM_ => (ro_nilR up_h)) trivial ?_
 refine dh_ro (fun M_ hM_ => (ro_eq (ro_fld_ref qfl83_0 rfl up_h) (by simp only [pS, Value.cells, Nat.reduceAdd, jnE, beE, Int.toNat_natCast, toNat_suc, toNat_pre] <;> rfl))) trivial ?_
 refine dh_ro (fun M_ hM_ => (ro_eq (ro_fld_ref qfl26_2 rfl up_h) (by simp only [pS, Value.cells, Nat.reduceAdd, jnE, beE, Int.toNat_natCast, toNat_suc, toNat_pre] <;> rfl))) trivial ?_
 refine dh_ro (fun M_ hM_ => (ro_eq (ro_ld_ref y47_ty23 rfl up_h (nle rfl)) (by simp only [pS, Value.cells, Nat.reduceAdd, jnE, beE, Int.toNat_natCast, toNat_suc, toNat_pre] <;> rfl))) trivial ?_
 refine dh_ro (fun M_ hM_ => (ro_move (u2 rfl (u4 rfl (u8 rfl s2_3))))) trivial ?_
 refine dh_ro (fun M_ hM_ => (ro_eq (ro_ix y47_sl23 (up_m rfl up_h) up_h (by omega) (by first | (refine idx_map ?_; first | omega | (simp only [lnS]; omega)) | (refine idx_mapI ?_; first | omega | (simp only [lnS]; omega)) | (refine idx_mapN ?_; first | omega | (simp only [lnS]; omega)) | rfl)) (by simp only [pS, Value.cells, Nat.reduceAdd, jnE, beE, Int.toNat_natCast, toNat_suc, toNat_pre] <;> rfl))) trivial ?_
 refine dh_ro (fun M_ hM_ => (ro_eq (ro_ld_ref y47_ty69 rfl up_h (nle rfl)) (by simp only [pS, Value.cells, Nat.reduceAdd, jnE, beE, Int.toNat_natCast, toNat_suc, toNat_pre] <;> rfl))) trivial ?_
 refine dh_nw (0) (fun M_ hM_ => (nw_alloc qaz69 rfl)) trivial mo0_6 rfl trivial trivial (fun m_7 hm_7 => ?_)
 have mo0_7 := m_set hm_7 mo0_6
 simp only [pS, Value.cells, Nat.reduceAdd, jnE, beE, Int.toNat_natCast, toNat_suc, toNat_pre] at mo0_7
 have mo1_7 := m_set_o hm_7 mo1_6 (by decide)
 have ml_7 := m_set_l hm_7 ml_6
 clear hm_7 mo0_6 mo1_6
 refine dh_nw (1) (fun M_ hM_ => (nw_alloc qaz69 rfl)) trivial mo1_7 rfl ⟨.inl (by simp <;> omega), trivial⟩ ⟨.inl (by simp <;> omega), trivial⟩ (fun m_8 hm_8 => ?_)
 have mo1_8 := m_set hm_8 mo1_7
 simp only [pS, Value.cells, Nat.reduceAdd, jnE, beE, Int.toNat_natCast, toNat_suc, toNat_pre] at mo1_8
 have mo0_8 := m_set_o hm_8 mo0_7 (by decide)
 have ml_8 := m_set_l hm_8 ml_7
 clear hm_8 mo0_7 mo1_7
 refine dh_set (0) (fun M_ hM_ => (se_store (up_m rfl up_h) (u2 rfl (u8 rfl up_h)) rfl rfl (agr hM_ mo0_8 (by simp)) qsz69 rfl (nle rfl))) trivial ⟨.inr (wt_one 19 17 (by kernel_rfl)), ⟨.inl (by simp <;> omega), trivial⟩⟩ ⟨.inr (wt_one 19 17 (by kernel_rfl)), ⟨.inl (by simp <;> omega), trivial⟩⟩ (fun m_9 hm_9 => ?_)
 have mo0_9 := m_set hm_9 mo0_8
 simp only [pS, Value.cells, Nat.reduceAdd, jnE, beE, Int.toNat_natCast, toNat_suc, toNat_pre] at mo0_9
 have mo1_9 := m_set_o hm_9 mo1_8 (by decide)
 have ml_9 := m_set_l hm_9 ml_8
 clear hm_9 mo1_8 mo0_8
 refine dh_nil rfl ?_
 refine al_stm (st_store (up_n up_h) (up_n (u2 rfl up_h)) rfl rfl mo1_9 qsz69 rfl (nle rfl)) trivial rfl (fun m_10 hm_10 => ?_)
 have mo1_10 := m_set hm_10 mo1_9
 simp only [pS, Value.cells, Nat.reduceAdd, jnE, beE, Int.toNat_natCast, toNat_suc, toNat_pre] at mo1_10
 have mo0_10 := m_set_o hm_10 mo0_9 (by decide)
 have ml_10 := m_set_l hm_10 ml_9
 clear hm_10 mo0_9 mo1_9
 refine ae5 (up_n (up_n (up_m rfl (u2 rfl (u16 rfl s1_3))))) (up_n (up_n (up_m rfl (u2 rfl (u16 rfl s7_3))))) (up_n (up_n (up_m rfl (u2 rfl (u16 rfl s8_3))))) (up_n (up_n (up_m rfl up_h))) (up_n (up_n up_h)) ?_; clear s0_3 s1_3 s24_3 s2_3 s7_3 s8_3; intro e_11 s1_11 s7_11 s8_11 s9_11 s10_11
 refine then_n <| aw_seq <| at_ <| ar (ro_assign ev_c) rfl <| ae6 (up_m rfl s1_11) (up_m rfl s7_11) (up_m rfl s8_11) (up_m rfl s9_11) (up_m rfl s10_11) up_h ?_; clear s10_11 s1_11 s7_11 s8_11 s9_11; intro e_12 s1_12 s7_12 s8_12 s9_12 s10_12 s11_12
 refine then_n <| aw_seq <| aw_draw 14 (by kernel_rfl) (by kernel_rfl) (by kernel_rfl) (by kernel_rfl) ?_
 refine dr (ro_move s11_12) rfl <| dr (ro_move (up_m rfl s1_12)) rfl ?_
 (refine dr (ro_mul' (up_m rfl up_h) up_h ?_) rfl ?_; · ((first | unfold In64 | unfold InU64); omega))
 refine dr (ro_move (up_m rfl (u2 rfl s7_12))) rfl <| dr (ro_call (evL_cons up_h (evL_cons ev_c evL_nil)) rfl ((compare_ok _ _).mono (fun q h => show q = mA (sgnV (benN l j)) from h)) qhcf60) rfl ?_
 refine dr (ro_fld_ptr qfl69_1 rfl (up_m rfl (u4 rfl s9_12))) rfl <| dr (ro_eq (ro_ld_ptr y47_ty3 rfl mo0_10 up_h (nle rfl)) (by simp only [pS, Value.cells, Nat.reduceAdd, jnE, beE, Int.toNat_natCast, toNat_suc, toNat_pre] <;> rfl)) rfl ?_
 refine dr (ro_fld_ptr qfl69_1 rfl (up_m rfl (u2 rfl (u4 rfl s10_12)))) rfl <| dr (ro_eq (ro_ld_ptr y47_ty3 rfl mo1_10 up_h (nle rfl)) (by simp only [pS, Value.cells, Nat.reduceAdd, jnE, beE, Int.toNat_natCast, toNat_suc, toNat_pre] <;> rfl)) rfl ?_
 (refine dr (ro_add' (u2 rfl up_h) up_h ?_) rfl ?_; · ((first | unfold In64 | unfold InU64); omega))
 (refine dr (ro_mul' (up_m rfl (u4 rfl up_h)) up_h ?_) rfl ?_; · ((first | unfold In64 | unfold InU64); omega))
 (refine dr (ro_mul' up_h ev_c ?_) rfl ?_; · ((first | unfold In64 | unfold InU64); omega))
 (refine dr (ro_add' (up_m rfl (u8 rfl up_h)) up_h ?_) rfl ?_; · ((first | unfold In64 | unfold InU64); omega))
 refine dr (ro_assign up_h) rfl <| ds_nil <| ae6 (u2 rfl (u4 rfl (u8 rfl s7_12))) (u2 rfl (u4 rfl (u8 rfl s8_12))) (u2 rfl (u4 rfl (u8 rfl s9_12))) (u2 rfl (u4 rfl (u8 rfl s10_12))) (u2 rfl (u4 rfl (u8 rfl s11_12))) up_h ?_; clear s10_12 s11_12 s1_12 s7_12 s8_12 s9_12; intro e_13 s7_13 s8_13 s9_13 s10_13 s11_13 s12_13
 refine then_n <| aw_seq <| aw_seq <| at_ <| ar (ro_move s12_13) rfl <| ar (ro_lss up_h ev_c) rfl <| ae7 (u2 rfl s7_13) (u2 rfl s8_13) (u2 rfl s9_13) (u2 rfl s10_13) (u2 rfl s11_13) (u2 rfl s12_13) up_h ?_; clear s10_13 s11_13 s12_13 s7_13 s8_13 s9_13; intro e_14 s7_14 s8_14 s9_14 s10_14 s11_14 s12_14 s56_14
 refine then_n <| aw_case s56_14 (fun hq_15 => ?_) (fun hq_15 => ?_)
 ·replace hq_15 := bt hq_15
  refine aw_seq <| at_ <| ar (ro_assign ev_c) rfl <| ae1 up_h ?_; clear s10_14 s11_14 s12_14 s56_14 s7_14 s8_14 s9_14; intro e_16 s6_16
  refine then_n <| aw_ret <| then_r <| ret1 (.inr rfl) (by kernel_rfl) (resV_tmp s6_16) (.ro _ rfl) ?_
  clear s6_16 mo1_10 mo0_10 ml_10
  (rw [limV, if_neg (by assumption), if_pos (by assumption)])
 replace hq_15 := bf hq_15
 (have hh : 0 ≤ (2000 * s + sgnV (benN l j) * ((l.bs.getD (j - 1) default).cant + (l.bs.getD j default).cant) * 9810) := (by omega); have m1 := mul_in (x := (2000 * s + sgnV (benN l j) * ((l.bs.getD (j - 1) default).cant + (l.bs.getD j default).cant) * 9810)) (y := ((l.bs.getD (j - 1) default).len + (l.bs.getD j default).len)) 15886000 60000 e5 (by omega); have n1 := Int.mul_nonneg hh (show 0 ≤ ((l.bs.getD (j - 1) default).len + (l.bs.getD j default).len) by omega); have vv1 : InU64 ((2000 * s + sgnV (benN l j) * ((l.bs.getD (j - 1) default).cant + (l.bs.getD j default).cant) * 9810) * ((l.bs.getD (j - 1) default).len + (l.bs.getD j default).len)) := ⟨n1, by omega⟩; have vv2 : InU64 (benD l j) := ⟨by omega, by omega⟩; have m2 := mul_in (x := ((2000 * s + sgnV (benN l j) * ((l.bs.getD (j - 1) default).cant + (l.bs.getD j default).cant) * 9810) * ((l.bs.getD (j - 1) default).len + (l.bs.getD j default).len))) (y := benD l j) 953160000000 900000000 (by omega) (by omega); have hu2 : 18446744073709551616 ≤ (((2000 * s + sgnV (benN l j) * ((l.bs.getD (j - 1) default).cant + (l.bs.getD j default).cant) * 9810) * ((l.bs.getD (j - 1) default).len + (l.bs.getD j default).len)) * benD l j) := hu; have vv3 : InU64 ((((2000 * s + sgnV (benN l j) * ((l.bs.getD (j - 1) default).cant + (l.bs.getD j default).cant) * 9810) * ((l.bs.getD (j - 1) default).len + (l.bs.getD j default).len)) * benD l j) % 18446744073709551616) := ⟨by omega, by omega⟩; have vv4 : InU64 (2 * 2000 * max (benN l j) (-benN l j)) := ⟨by omega, by omega⟩; have dv := div64_ok ((((2000 * s + sgnV (benN l j) * ((l.bs.getD (j - 1) default).cant + (l.bs.getD j default).cant) * 9810) * ((l.bs.getD (j - 1) default).len + (l.bs.getD j default).len)) * benD l j) / 18446744073709551616) ((((2000 * s + sgnV (benN l j) * ((l.bs.getD (j - 1) default).cant + (l.bs.getD j default).cant) * 9810) * ((l.bs.getD (j - 1) default).len + (l.bs.getD j default).len)) * benD l j) % 18446744073709551616) (2 * 2000 * max (benN l j) (-benN l j)) vv3 (by omega) (by omega); rw [show (((2000 * s + sgnV (benN l j) * ((l.bs.getD (j - 1) default).cant + (l.bs.getD j default).cant) * 9810) * ((l.bs.getD (j - 1) default).len + (l.bs.getD j default).len)) * benD l j) / 18446744073709551616 * 18446744073709551616 + (((2000 * s + sgnV (benN l j) * ((l.bs.getD (j - 1) default).cant + (l.bs.getD j default).cant) * 9810) * ((l.bs.getD (j - 1) default).len + (l.bs.getD j default).len)) * benD l j) % 18446744073709551616 = (((2000 * s + sgnV (benN l j) * ((l.bs.getD (j - 1) default).cant + (l.bs.getD j default).cant) * 9810) * ((l.bs.getD (j - 1) default).len + (l.bs.getD j default).len)) * benD l j) by omega] at dv; have vv6 := Int.ediv_nonneg (show 0 ≤ (((2000 * s + sgnV (benN l j) * ((l.bs.getD (j - 1) default).cant + (l.bs.getD j default).cant) * 9810) * ((l.bs.getD (j - 1) default).len + (l.bs.getD j default).len)) * benD l j) by omega) (show 0 ≤ (2 * 2000 * max (benN l j) (-benN l j)) by omega); have vv7 := Int.emod_nonneg ((((2000 * s + sgnV (benN l j) * ((l.bs.getD (j - 1) default).cant + (l.bs.getD j default).cant) * 9810) * ((l.bs.getD (j - 1) default).len + (l.bs.getD j default).len)) * benD l j)) (show (2 * 2000 * max (benN l j) (-benN l j)) ≠ 0 by omega); unfold InU64 at vv1 vv2 vv4; have vv5 : 0 < (2 * 2000 * max (benN l j) (-benN l j)) := (by omega))
 refine aw_skip <| then_n <| aw_seq <| at_ <| ar (ro_move s12_14) rfl <| ar (ro_fld_ptr qfl69_0 rfl (up_m rfl s9_14)) rfl <| ar (ro_eq (ro_ld_ptr y47_ty3 rfl mo0_10 up_h (nle rfl)) (by simp only [pS, Value.cells, Nat.reduceAdd, jnE, beE, Int.toNat_natCast, toNat_suc, toNat_pre] <;> rfl)) rfl ?_
 refine ar (ro_fld_ptr qfl69_0 rfl (up_m rfl (u2 rfl s10_14))) rfl <| ar (ro_eq (ro_ld_ptr y47_ty3 rfl mo1_10 up_h (nle rfl)) (by simp only [pS, Value.cells, Nat.reduceAdd, jnE, beE, Int.toNat_natCast, toNat_suc, toNat_pre] <;> rfl)) rfl ?_
 (refine ar (ro_add' (u2 rfl up_h) up_h ?_) rfl ?_; · ((first | unfold In64 | unfold InU64); omega))
 (refine ar (ro_mul' (up_m rfl (u4 rfl up_h)) up_h ?_) rfl ?_; · ((first | unfold In64 | unfold InU64); omega))
 (refine ar (ro_cvU up_h (by kernel_rfl) (by kernel_rfl) ?_) rfl ?_; · ((first | unfold In64 | unfold InU64); omega))
 refine ar (ro_move (u8 rfl s8_14)) rfl ?_
 (refine ar (ro_cvU up_h (by kernel_rfl) (by kernel_rfl) ?_) rfl ?_; · ((first | unfold In64 | unfold InU64); omega))
 refine ar (ro_call (evL_cons (u2 rfl up_h) (evL_cons up_h evL_nil)) rfl (mul64_ok _ _ vv1 vv2) qhcf61) rfl <| ar (ro_move up_h) rfl <| ar (ro_extract up_h rfl) rfl <| ar (ro_extract (up_m rfl up_h) rfl) rfl <| ar (ro_assign (up_m rfl up_h)) rfl <| ar (ro_assign (up_m rfl up_h)) rfl <| ae4 (u16 rfl s7_14) (u16 rfl s11_14) (up_m rfl up_h) up_h ?_; clear s10_14 s11_14 s12_14 s56_14 s7_14 s8_14 s9_14; intro e_17 s7_17 s11_17 s13_17 s14_17
 refine then_n <| aw_seq <| at_ <| ar (ro_move s13_17) rfl <| ar (ro_move (up_m rfl s14_17)) rfl <| ar (ro_move (u2 rfl s11_17)) rfl ?_
 (refine ar (ro_mul' ev_c up_h ?_) rfl ?_; · ((first | unfold In64 | unfold InU64); omega))
 refine ar (ro_move (u4 rfl s7_17)) rfl <| ar (ro_move (up_m rfl (u4 rfl s7_17))) rfl ?_
 (refine ar (ro_neg' up_h ?_) rfl ?_; · ((first | unfold In64 | unfold InU64); omega))
 refine ar (ro_max (u2 rfl up_h) up_h) rfl ?_
 (refine ar (ro_mul' (u4 rfl up_h) up_h ?_) rfl ?_; · ((first | unfold In64 | unfold InU64); omega))
 (refine ar (ro_cvU up_h (by kernel_rfl) (by kernel_rfl) ?_) rfl ?_; · ((first | unfold In64 | unfold InU64); omega))
 refine ar (ro_call (evL_cons (up_m rfl (u8 rfl up_h)) (evL_cons (u8 rfl up_h) (evL_cons up_h evL_nil))) rfl (dv) qhcf62) rfl <| ar (ro_move up_h) rfl <| ar (ro_extract up_h rfl) rfl <| ar (ro_extract (up_m rfl up_h) rfl) rfl <| ar (ro_assign (up_m rfl up_h)) rfl <| ar (ro_assign (up_m rfl up_h)) rfl <| ae1 (up_m rfl up_h) ?_; clear s11_17 s13_17 s14_17 s7_17; intro e_18 s15_18
 refine then_n <| aw_seq <| at_ <| ar (ro_move s15_18) rfl <| ar (ro_min up_h ev_c) rfl ?_
 (refine ar (ro_cvI up_h (by kernel_rfl) (by kernel_rfl) ?_) rfl ?_; · ((first | unfold In64 | unfold InU64); omega))
 refine ar (ro_assign up_h) rfl <| ae1 up_h ?_; clear s15_18; intro e_19 s6_19
 refine then_n <| aw_ret <| ret1 (.inr rfl) (by kernel_rfl) (resV_tmp s6_19) (.ro _ rfl) ?_
 clear s6_19 mo1_10 mo0_10 ml_10
 (rw [limV, if_neg (by assumption), if_neg (by assumption)]; rfl)
theorem limit_ok (l : Lin) (h : Rgt l) (s : Int) (hs : 0 ≤ s ∧ s ≤ 5000) (j : Nat) (hj : 1 ≤ j ∧ j + 2 ≤ l.js.length) : FnOk Try.prog 39 [tkA l, mA s, mA j] (fun q => q = mA (limV l s j)) := by
 by_cases hu : limU l s j < 18446744073709551616
 ·exact limit_low l h s hs j hj hu
 ·exact limit_high l h s hs j hj (by omega)
def limL (l : Lin) (s : Int) (n : Nat) : List Int := (List.range n).map fun (i : Nat) => limV l s (i + 1)
theorem limL_len (l : Lin) (s : Int) (n : Nat) : (limL l s n).length = n := by simp [limL]
theorem limL_succ (l : Lin) (s : Int) (n : Nat) : limL l s (n + 1) = limL l s n ++ [limV l s (n + 1)] := by simp [limL, List.range_succ]
theorem limL_at (l : Lin) (s : Int) {n i : Nat} (h : i < n) : (limL l s n).getD i default = limV l s (i + 1) := by simp [limL, List.getD_eq_getElem?_getD, h]
set_option maxRecDepth 100000 in
set_option maxHeartbeats 4000000 in
theorem limitsOf_good (l : Lin) (hl : Sho l) (hg : (linM l).2 = 0) (sd : Int) (hs : sidE sd = 0) : FnOk Try.prog 14 [lnA l, mA sd] (fun q => q = .tuple [.row 1 ((limL l sd (l.js.length - 2)).map iE), mA 0]) := by
 refine fnOk_of (fn := Try.f14) 42 (by kernel_rfl) rfl (by kernel_rfl) (Nat.le_of_ble_eq_true rfl) ?_
 intro e_0 m_0 hA hm_0
 have s0_0 : evA e_0 (.tmp 0) = _ := hA 0 _ rfl
 have s1_0 : evA e_0 (.tmp 1) = _ := hA 1 _ rfl
 have ml_0 : m_0.length = 0 := by rw [hm_0]; rfl
 clear hA hm_0
 have h := rgt_of hg; have hn1 := h.n1; have hn0 := h.n0; have hjs := h.js; have hs2 := sidE_z.1 hs
 refine aw_seq <| at_ <| al_stm (st_box s0_0 rfl ml_0) trivial rfl (fun m_1 hm_1 => ?_)
 have mo0_1 := m_push hm_1 ml_0
 have ml_1 := m_push_l hm_1 ml_0
 have ml_1 : _ = 1 := ml_1
 clear hm_1
 refine ar (ro_assign ev_c) rfl <| ar (ro_assign ev_c) rfl <| ae2 (up_m rfl (u2 rfl s1_0)) (u2 rfl up_h) ?_; clear s0_0 s1_0; intro e_2 s1_2 s2_2
 refine then_n <| aw_seq <| at_ <| ar (ro_eq (ro_ld_ptr y47_ty26 rfl mo0_1 s2_2 (nle rfl)) (by simp only [pS, Value.cells, Nat.reduceAdd, one_iE, app_m] <;> rfl)) rfl ?_
 refine ar (ro_call (evL_cons up_h evL_nil) rfl (yOpen_good l hl hg) qhcf27) rfl <| ar (ro_move up_h) rfl <| ar (ro_extract up_h rfl) rfl <| ar (ro_extract (up_m rfl up_h) rfl) rfl <| ar (ro_assign (up_m rfl up_h)) rfl <| ar (ro_assign (up_m rfl up_h)) rfl <| ae3 (up_m rfl (u2 rfl (u4 rfl s1_2))) (up_m rfl up_h) up_h ?_; clear s1_2 s2_2; intro e_3 s1_3 s6_3 s7_3
 refine then_n <| aw_seq <| aw_seq <| at_ <| ar (ro_move s7_3) rfl <| ar (ro_move (up_m rfl s1_3)) rfl <| ar (ro_call (evL_cons up_h evL_nil) rfl (sideErr_ok _) qhcf38) rfl <| ar (ro_lit y47_sl100 (evP_cons (u2 rfl up_h) (evP_cons up_h evP_nil)) rfl rfl rfl rfl) rfl <| ar (ro_call (evL_cons up_h evL_nil) rfl ((yFirst_ok [_, _] (by simp)).mono (fun q h => h.trans (show mA (firstE [0, unlessE (withinB sd 0 5000) 2]) = mA (sidE sd) from congrArg mA (firstE_0 _)))) qhcf37) rfl ?_
 refine ar (ro_assign up_h) rfl <| ae3 (u2 rfl (u4 rfl s1_3)) (u2 rfl (u4 rfl s6_3)) up_h ?_; clear s1_3 s6_3 s7_3; intro e_4 s1_4 s6_4 s7_4
 refine then_n <| aw_seq <| at_ <| ar (ro_move s7_4) rfl <| ar (ro_neq up_h ev_c) rfl <| ae4 (u2 rfl s1_4) (u2 rfl s6_4) (u2 rfl s7_4) up_h ?_; clear s1_4 s6_4 s7_4; intro e_5 s1_5 s6_5 s7_5 s21_5
 refine then_n <| aw_case s21_5 (fun hq_6 => ?_) (fun hq_6 => ?_)
 ·replace hq_6 := bnt hq_6; exfalso; omega
 replace hq_6 := bnf hq_6
 refine aw_skip <| then_n <| aw_seq <| at_ <| ar (ro_assign ev_c) rfl <| ae3 (up_m rfl s1_5) (up_m rfl s6_5) up_h ?_; clear s1_5 s21_5 s6_5 s7_5; intro e_7 s1_7 s6_7 s8_7
 refine then_n <| aw_seq <| aw_seq <| at_ <| ar (ro_assign ev_c) rfl <| ae4 (up_m rfl s1_7) (up_m rfl s6_7) (up_m rfl s8_7) up_h ?_; clear s1_7 s6_7 s8_7; intro e_8 s1_8 s6_8 s8_8 s9_8
 refine then_n <| aw_block <| aw_adopt 3 1 s8_8 ml_1 (fun m_9 e_9 hm_9 he_9 => ?_)
 have mo1_9 := m_push hm_9 ml_1
 have mo0_9 := m_push_o hm_9 mo0_1
 have ml_9 := m_push_l hm_9 ml_1
 have ml_9 : _ = 2 := ml_9
 have s1_9 : evA e_9 (.tmp 1) = _ := (congrArg (fun q => evA q (.tmp 1)) he_9).trans (up_m rfl s1_8)
 have s6_9 : evA e_9 (.tmp 6) = _ := (congrArg (fun q => evA q (.tmp 6)) he_9).trans (up_m rfl s6_8)
 have s8_9 : evA e_9 (.tmp 8) = _ := (congrArg (fun q => evA q (.tmp 8)) he_9).trans up_h
 have s9_9 : evA e_9 (.tmp 9) = _ := (congrArg (fun q => evA q (.tmp 9)) he_9).trans (up_m rfl s9_8)
 clear hm_9 he_9
 refine aw_loop (S := (Int × List Int)) (fun s e mem => match s with | ⟨k, xs⟩ => (evA e (.tmp 9) = .v (.int .i64 k)) ∧ (evA e (.tmp 1) = evA e_9 (.tmp 1)) ∧ (evA e (.tmp 6) = evA e_9 (.tmp 6)) ∧ (mem[0]? = m_9[0]?) ∧ (∃ j, evA e (.tmp 8) = .own j ∧ mem[j]? = some (.row 3 1 (xs.map iE)) ∧ j ≠ 0) ∧ (∃ n, mem.length = n ∧ 2 ≤ n) ∧ ((1 ≤ k ∧ k + 1 ≤ l.js.length ∧ xs = limL l sd (k.toNat - 1)))) (fun s => match s with | ⟨k, xs⟩ => (l.js.length - k).toNat) ⟨_, []⟩ ⟨s9_9, rfl, rfl, rfl, ⟨_, s8_9, mo1_9, (by decide)⟩, ⟨_, ml_9, Nat.le_refl _⟩, ?_⟩ ?_
 ·(exact ⟨by omega, by omega, rfl⟩)
 ·rintro ⟨k, xs⟩ e_10 m_10 ⟨s9_10, k1_10, k6_10, mk0_10, ⟨j8_10, s8_10, mo_j8_10, nj8_0_10⟩, ⟨n_10, ml_10, hn_10⟩, hinv⟩
  have s1_10 := k1_10.trans s1_9
  have s6_10 := k6_10.trans s6_9
  have mo0_10 := mk0_10.trans mo0_9
  have jl8_10 := m_lt mo_j8_10 ml_10
  (obtain ⟨p1, p2, p3⟩ := hinv; have hxl : xs.length = k.toNat - 1 := (by rw [p3, limL_len]))
  refine aw_seq <| aw_seq <| at_ <| ar (ro_move s9_10) rfl <| ar (ro_move (up_m rfl s6_10)) rfl <| ar (ro_nilR up_h) rfl <| ar (ro_eq (ro_fld_ref qfl83_0 rfl up_h) (by simp only [pS, Value.cells, Nat.reduceAdd, one_iE, app_m] <;> rfl)) rfl ?_
  refine ar (ro_eq (ro_fld_ref qfl26_1 rfl up_h) (by simp only [pS, Value.cells, Nat.reduceAdd, one_iE, app_m] <;> rfl)) rfl ?_
  refine ar (ro_eq (ro_ld_ref y47_ty22 rfl up_h (nle rfl)) (by simp only [pS, Value.cells, Nat.reduceAdd, one_iE, app_m] <;> rfl)) rfl ?_
  refine ar (ro_eq (ro_len_row up_h rfl y47_sl22.1) (by simp only [lnS] <;> rfl)) rfl ?_
  (refine ar (ro_sub' up_h ev_c ?_) rfl ?_; · (unfold In64; omega))
  refine ar (ro_lss (up_m rfl (u2 rfl (u4 rfl up_h))) up_h) rfl <| ae5 (up_m rfl (u8 rfl s1_10)) (up_m rfl (u8 rfl s6_10)) (up_m rfl (u8 rfl s8_10)) (up_m rfl (u8 rfl s9_10)) up_h ?_; clear s1_10 s6_10 s8_10 s9_10; intro e_11 s1_11 s6_11 s8_11 s9_11 s31_11
  refine then_n <| aw_case s31_11 (fun hq_12 => ?_) (fun hq_12 => ?_)
  ·replace hq_12 := bt hq_12
   (have lm := limit_ok l h sd hs2 k.toNat (by omega); rw [show ((k.toNat : Nat) : Int) = k by omega] at lm)
   refine aw_skip <| then_n <| aw_seq <| aw_block <| at_ <| ar (ro_move s8_11) rfl <| ar (ro_move (up_m rfl s6_11)) rfl <| ar (ro_move (u2 rfl s1_11)) rfl <| ar (ro_move (up_m rfl (u2 rfl s9_11))) rfl <| ar (ro_call (evL_cons (u2 rfl up_h) (evL_cons (up_m rfl up_h) (evL_cons up_h evL_nil))) rfl (lm) qhcf39) rfl <| ar (ro_lit y47_sl40 (evP_cons up_h evP_nil) rfl rfl rfl rfl) rfl <| al_stm (st_app y47_sl40 rfl ml_10 mo_j8_10 (up_m rfl (u4 rfl up_h)) up_h (by rfl) (by simp only [lnS] <;> omega)) trivial rfl (fun m_13 hm_13 => ?_)
   have mon_10_13 := m_swap hm_13 ml_10
   simp only [pS, Value.cells, Nat.reduceAdd, one_iE, app_m] at mon_10_13
   have mo0_13 := m_swap_o hm_13 mo0_10 (by omega)
   have ml_13 := m_swap_l hm_13 ml_10
   clear hm_13 mo0_10 mo_j8_10
   refine ar (ro_assign up_h) rfl <| ae4 (u8 rfl s1_11) (u8 rfl s6_11) up_h (u8 rfl s9_11) ?_; clear s1_11 s31_11 s6_11 s8_11 s9_11; intro e_14 s1_14 s6_14 s8_14 s9_14
   refine block_n <| then_n <| at_ <| ar (ro_move s9_14) rfl ?_
   (refine ar (ro_add' up_h ev_c ?_) rfl ?_; · (unfold In64; omega))
   refine ar (ro_assign up_h) rfl <| ae4 (up_m rfl (u2 rfl s1_14)) (up_m rfl (u2 rfl s6_14)) (up_m rfl (u2 rfl s8_14)) up_h ?_; clear s1_14 s6_14 s8_14 s9_14; intro e_15 s1_15 s6_15 s8_15 s9_15
   refine then_n <| ⟨⟨_, _⟩, ⟨s9_15, (s1_15.trans s1_9.symm), (s6_15.trans s6_9.symm), (mo0_13.trans mo0_9.symm), ⟨_, s8_15, mon_10_13, (by omega)⟩, ⟨_, ml_13, by omega⟩, ?_⟩, ?_⟩
   ·(refine ⟨by omega, by omega, ?_⟩; rw [show (k + 1).toNat - 1 = (k.toNat - 1) + 1 by omega, limL_succ, ← p3, show k.toNat - 1 + 1 = k.toNat by omega])
   ·((try dsimp only); omega)
  replace hq_12 := bf hq_12
  (have hx : xs = limL l sd (l.js.length - 2) := (by rw [p3]; congr 1; omega); clear p3; subst hx)
  refine aw_exit <| then_x <| then_x <| block_hit <| then_n <| aw_seq <| at_ <| ar (ro_move s8_11) rfl <| ar (ro_assign up_h) rfl <| ar (ro_assign ev_c) rfl <| ae2 (up_m rfl up_h) up_h ?_; clear s1_11 s31_11 s6_11 s8_11 s9_11; intro e_16 s4_16 s5_16
  refine then_n <| aw_ret <| ret2 (.inr rfl) (by kernel_rfl) (resV_tmp s4_16) (resV_tmp s5_16) (.own _ _ _ _ mo_j8_10) (.ro _ rfl) ?_
  clear s4_16 s5_16 mo0_10 mo_j8_10 ml_10
  rfl
def valD : List Int → Int
 | [] => 0
 | d :: ds => d + 1000000000 * valD ds
def GD (ds : List Int) : Prop := ∀ d ∈ ds, 0 ≤ d ∧ d < 1000000000
def digN (n : Nat) : List Int := if h : n = 0 then [] else ((n % 1000000000 : Nat) : Int) :: digN (n / 1000000000)
termination_by n
decreasing_by omega
theorem digN_0 : digN 0 = [] := by rw [digN]; simp
theorem digN_s {n : Nat} (h : n ≠ 0) : digN n = ((n % 1000000000 : Nat) : Int) :: digN (n / 1000000000) := by rw [digN]; simp [h]
theorem digN_val : ∀ n : Nat, valD (digN n) = n := by
 intro n
 induction n using Nat.strongRecOn with
 | ind n ih =>
  by_cases h : n = 0
  ·subst h; rw [digN_0]; rfl
  ·rw [digN_s h, valD, ih _ (by omega)]; omega
theorem digN_gd : ∀ n : Nat, GD (digN n) := by
 intro n
 induction n using Nat.strongRecOn with
 | ind n ih =>
  by_cases h : n = 0
  ·subst h; rw [digN_0]; intro d hd; cases hd
  ·rw [digN_s h]
   intro d hd
   rcases List.mem_cons.1 hd with rfl | hd
   ·omega
   ·exact ih _ (by omega) d hd
theorem GD.tail {d : Int} {ds : List Int} (h : GD (d :: ds)) : GD ds := fun x hx => h x (List.mem_cons_of_mem _ hx)
theorem valD_nn : ∀ {ds : List Int}, GD ds → 0 ≤ valD ds
 | [], _ => by decide
 | d :: ds, h => by have := valD_nn h.tail; have := h d (List.mem_cons_self ..); rw [valD]; omega
theorem valD_app : ∀ (a b : List Int), valD (a ++ b) = valD a + 1000000000 ^ a.length * valD b
 | [], b => by simp [valD]
 | d :: a, b => by
  rw [List.cons_append, valD, valD, valD_app a b, List.length_cons, Int.pow_succ, Int.mul_add, ← Int.mul_assoc, Int.mul_comm (1000000000 ^ a.length) 1000000000]
  omega
theorem valD_zero : ∀ {ds : List Int}, (∀ d ∈ ds, d = 0) → valD ds = 0
 | [], _ => rfl
 | d :: ds, h => by rw [valD, h d (List.mem_cons_self ..), valD_zero fun x hx => h x (List.mem_cons_of_mem _ hx)]; rfl
theorem GD.at {ds : List Int} (h : GD ds) (i : Nat) : 0 ≤ ds.getD i default ∧ ds.getD i default < 1000000000 := by
 rw [List.getD_eq_getElem?_getD]
 by_cases hi : i < ds.length
 ·rw [List.getElem?_eq_getElem hi]; exact h _ (List.getElem_mem hi)
 ·rw [List.getElem?_eq_none (by omega)]; exact ⟨by decide, by decide⟩
theorem GD.take {ds : List Int} (h : GD ds) (n : Nat) : GD (ds.take n) := fun d hd => h d (List.mem_of_mem_take hd)
theorem GD.set {ds : List Int} (h : GD ds) (n : Nat) {v : Int} (hv : 0 ≤ v ∧ v < 1000000000) : GD (ds.set n v) := fun d hd => by
 rcases List.mem_or_eq_of_mem_set hd with hd | rfl
 ·exact h d hd
 ·exact hv
theorem GD.app {a b : List Int} (h : GD a) (k : GD b) : GD (a ++ b) := fun d hd => (List.mem_append.1 hd).elim (h d) (k d)
theorem GD.one {v : Int} (hv : 0 ≤ v ∧ v < 1000000000) : GD [v] := fun d hd => by rw [List.mem_singleton.1 hd]; exact hv
theorem GD.nil : GD [] := fun d hd => by cases hd
theorem GD.rep (n : Nat) : GD (List.replicate n 0) := fun d hd => by rw [(List.mem_replicate.1 hd).2]; exact ⟨by decide, by decide⟩
theorem valD_set : ∀ {ds : List Int} {k : Nat} (v : Int), k < ds.length → valD (ds.set k v) = valD ds + (v - ds.getD k default) * 1000000000 ^ k
 | d :: ds, 0, v, _ => by simp [valD]; omega
 | d :: ds, k + 1, v, h => by
  have := valD_set (ds := ds) (k := k) v (by simpa using h)
  rw [List.set_cons_succ, valD, valD, this, List.getD_cons_succ, Int.pow_succ, ← Int.mul_assoc, Int.mul_add, Int.mul_comm _ 1000000000]
  omega
theorem valD_take {ds : List Int} {k : Nat} (h : k < ds.length) : valD (ds.take (k + 1)) = valD (ds.take k) + ds.getD k default * 1000000000 ^ k := by
 rw [List.take_add_one, List.getElem?_eq_getElem h, Option.toList_some, valD_app, List.length_take, Nat.min_eq_left (by omega), valD, valD, Int.mul_zero, Int.add_zero, List.getD_eq_getElem?_getD, List.getElem?_eq_getElem h, Int.mul_comm]; rfl
theorem valD_rep (n : Nat) : valD (List.replicate n 0) = 0 := valD_zero fun d hd => (List.mem_replicate.1 hd).2
theorem valD_lt : ∀ {ds : List Int}, GD ds → valD ds < 1000000000 ^ ds.length
 | [], _ => by decide
 | d :: ds, h => by
  have h1 := valD_lt h.tail
  have h2 := h d (List.mem_cons_self ..)
  rw [valD, List.length_cons, Int.pow_succ]
  omega
theorem digN_len {n : Nat} : ∀ {k : Nat}, n < 1000000000 ^ k → (digN n).length ≤ k := by
 induction n using Nat.strongRecOn with
 | ind n ih =>
  intro k h
  by_cases h0 : n = 0
  ·subst h0; rw [digN_0]; simp
  ·match k, h with
   | 0, h => simp at h; omega
   | k + 1, h =>
    rw [digN_s h0, List.length_cons]
    have := ih (n / 1000000000) (by omega) (k := k) (by rw [Nat.pow_succ] at h; omega)
    omega
structure WM (a b xs : List Int) (i k : Nat) (c : Int) : Prop where
 len : xs.length = a.length + b.length + 1
 gd : GD xs
 z : ∀ q : Nat, i + b.length ≤ q → xs.getD q default = 0
 cb : 0 ≤ c ∧ c < 1000000000
 v : valD xs + c * 1000000000 ^ (i + k) = valD (a.take i) * valD b + a.getD i default * valD (b.take k) * 1000000000 ^ i
theorem getD_set_ne {ds : List Int} {i j : Nat} (h : i ≠ j) (v : Int) : (ds.set i v).getD j default = ds.getD j default := by
 rw [List.getD_eq_getElem?_getD, List.getElem?_set_ne h, ← List.getD_eq_getElem?_getD]
theorem WM.first {a b : List Int} : WM a b (List.replicate (a.length + b.length + 1) 0) 0 0 0 := by
 refine ⟨by simp, GD.rep _, fun q _ => ?_, ⟨by decide, by decide⟩, ?_⟩
 ·rw [List.getD_eq_getElem?_getD, List.getElem?_replicate]; split <;> rfl
 ·rw [valD_rep]; simp [valD]
theorem WM.bd {a b xs : List Int} {i k : Nat} {c : Int} (h : WM a b xs i k c) (ha : GD a) (hb : GD b) : 0 ≤ a.getD i default * b.getD k default ∧ 0 ≤ xs.getD (i + k) default + a.getD i default * b.getD k default + c ∧ xs.getD (i + k) default + a.getD i default * b.getD k default + c ≤ 999999999999999999 := by
 have h1 := ha.at i
 have h2 := hb.at k
 have h3 := h.gd.at (i + k)
 have h4 := h.cb
 have m1 := Int.mul_nonneg h1.1 h2.1
 have m2 := Int.mul_le_mul (show a.getD i default ≤ 999999999 by omega) (show b.getD k default ≤ 999999999 by omega) h2.1 (by omega)
 omega
theorem WM.step {a b xs : List Int} {i k : Nat} {c s : Int} (h : WM a b xs i k c) (ha : GD a) (hb : GD b) (hi : i < a.length) (hk : k < b.length) (hs : s = xs.getD (i + k) default + a.getD i default * b.getD k default + c) : WM a b (xs.set (i + k) (s % 1000000000)) i (k + 1) (s / 1000000000) := by
 have hbd := h.bd ha hb
 rw [← hs] at hbd
 refine ⟨by rw [List.length_set]; exact h.len, h.gd.set _ (by omega), fun q hq => ?_, by omega, ?_⟩
 ·rw [getD_set_ne (by omega)]; exact h.z q hq
 ·rw [valD_set _ (by rw [h.len]; omega), valD_take hk, Int.mul_add, Int.add_mul, ← Int.add_assoc, ← h.v, ← Nat.add_assoc, Int.pow_succ]
  have e1 : a.getD i default * (b.getD k default * 1000000000 ^ k) * 1000000000 ^ i = a.getD i default * b.getD k default * 1000000000 ^ (i + k) := by
   rw [Int.pow_add, Int.mul_assoc, Int.mul_assoc, Int.mul_assoc, Int.mul_comm (1000000000 ^ i)]
  rw [e1]
  generalize (1000000000 : Int) ^ (i + k) = P
  have e2 : s / 1000000000 * (P * 1000000000) = (s - s % 1000000000) * P := by
   rw [Int.mul_comm P, ← Int.mul_assoc, show s / 1000000000 * 1000000000 = s - s % 1000000000 by omega]
  rw [e2, hs, Int.sub_mul, Int.sub_mul, Int.add_mul, Int.add_mul]
  omega
theorem WM.next {a b xs : List Int} {i : Nat} {c : Int} (h : WM a b xs i b.length c) (hi : i < a.length) : WM a b (xs.set (i + b.length) (xs.getD (i + b.length) default + c)) (i + 1) 0 0 := by
 have hz := h.z (i + b.length) (Nat.le_refl _)
 refine ⟨by rw [List.length_set]; exact h.len, h.gd.set _ (by rw [hz, Int.zero_add]; exact h.cb), fun q hq => ?_, ⟨by decide, by decide⟩, ?_⟩
 ·rw [getD_set_ne (by omega)]; exact h.z q (by omega)
 ·have hv := h.v
  rw [List.take_length] at hv
  rw [valD_set _ (by rw [h.len]; omega), hz, valD_take hi, Int.add_mul, show (0 : Int) + c - 0 = c by omega, hv]
  simp only [List.take_zero, valD, Int.mul_zero, Int.zero_mul, Int.add_zero]
  rw [Int.mul_assoc, Int.mul_assoc, Int.mul_comm (1000000000 ^ i)]
theorem WM.done {a b xs : List Int} (h : WM a b xs a.length 0 0) : valD xs = valD a * valD b := by
 have hv := h.v
 simp only [List.take_zero, valD, Int.mul_zero, Int.zero_mul, Int.add_zero, List.take_length] at hv
 exact hv
theorem digN_mono {m n : Nat} (h : m ≤ n) : (digN m).length ≤ (digN n).length := by
 have h1 := valD_lt (digN_gd n)
 rw [digN_val] at h1
 have h2 : ((n : Nat) : Int) < ((1000000000 ^ (digN n).length : Nat) : Int) := by rw [Int.natCast_pow]; exact h1
 exact digN_len (Nat.lt_of_le_of_lt h (Int.ofNat_lt.1 h2))
theorem list_same {a b : List Int} (hl : a.length = b.length) (h : ∀ q : Nat, q < a.length → a.getD q default = b.getD q default) : a = b := by
 refine List.ext_getElem hl fun n h1 h2 => ?_
 have := h n h1
 rw [List.getD_eq_getElem?_getD, List.getD_eq_getElem?_getD, List.getElem?_eq_getElem h1, List.getElem?_eq_getElem h2] at this
 exact this
theorem getD_far {ds : List Int} {i : Nat} (h : ds.length ≤ i) : ds.getD i default = 0 := by rw [List.getD_eq_getElem?_getD, List.getElem?_eq_none h]; rfl
theorem valD_takeD {ds : List Int} {k : Nat} : valD (ds.take (k + 1)) = valD (ds.take k) + ds.getD k default * 1000000000 ^ k := by
 by_cases h : k < ds.length
 ·exact valD_take h
 ·rw [List.take_of_length_le (by omega), List.take_of_length_le (by omega), getD_far (by omega), Int.zero_mul, Int.add_zero]
theorem valD_push {ds : List Int} {i : Nat} (h : ds.length = i) (v : Int) : valD (ds ++ [v]) = valD ds + v * 1000000000 ^ i := by
 rw [valD_app, h, valD, valD, Int.mul_zero, Int.add_zero, Int.mul_comm]
structure SB (a b o : List Int) (i : Nat) (w : Int) : Prop where
 len : o.length = i
 gd : GD o
 w01 : 0 ≤ w ∧ w ≤ 1
 v : valD o = valD (a.take i) - valD (b.take i) + w * 1000000000 ^ i
theorem SB.first (a b : List Int) : SB a b [] 0 0 := ⟨rfl, GD.nil, by omega, by simp [valD]⟩
theorem SB.next {a b o : List Int} {i : Nat} {w x y : Int} (h : SB a b o i w) (ha : GD a) (hb : GD b) (hx : x = a.getD i default - b.getD i default - w + y * 1000000000) (hy : 0 ≤ y ∧ y ≤ 1) (hr : 0 ≤ x ∧ x < 1000000000) : SB a b (o ++ [x]) (i + 1) y := by
 refine ⟨by simp [h.len], h.gd.app (GD.one hr), hy, ?_⟩
 rw [valD_push h.len, h.v, valD_takeD, valD_takeD, Int.pow_succ, hx]
 generalize (1000000000 : Int) ^ i = P
 rw [Int.add_mul, Int.sub_mul, Int.sub_mul, Int.mul_comm P, ← Int.mul_assoc]
 omega
theorem SB.done {m n : Nat} {o : List Int} {w : Int} (h : SB (digN m) (digN n) o (digN m).length w) (hmn : n ≤ m) : (valD o).toNat = m - n := by
 have hv := h.v
 rw [List.take_length, List.take_of_length_le (digN_mono hmn), digN_val, digN_val] at hv
 have h1 := valD_lt h.gd
 rw [h.len] at h1
 have h2 := h.w01
 rcases (show w = 0 ∨ w = 1 by omega) with rfl | rfl <;> omega
structure AD (a b o : List Int) (i : Nat) (w : Int) : Prop where
 len : o.length = i
 gd : GD o
 w01 : 0 ≤ w ∧ w ≤ 1
 v : valD o + w * 1000000000 ^ i = valD (a.take i) + valD (b.take i)
theorem AD.first (a b : List Int) : AD a b [] 0 0 := ⟨rfl, GD.nil, by omega, by simp [valD]⟩
theorem AD.next {a b o : List Int} {i : Nat} {w x : Int} (h : AD a b o i w) (ha : GD a) (hb : GD b) (hx : x = a.getD i default + b.getD i default + w) : AD a b (o ++ [x % 1000000000]) (i + 1) (x / 1000000000) := by
 have h1 := ha.at i
 have h2 := hb.at i
 have h3 := h.w01
 refine ⟨by simp [h.len], h.gd.app (GD.one (by omega)), by omega, ?_⟩
 have hv := h.v
 rw [valD_push h.len, valD_takeD, valD_takeD, Int.pow_succ]
 generalize (1000000000 : Int) ^ i = P at *
 have e1 : x / 1000000000 * (P * 1000000000) = (x - x % 1000000000) * P := by
  rw [Int.mul_comm P, ← Int.mul_assoc, show x / 1000000000 * 1000000000 = x - x % 1000000000 by omega]
 rw [e1, hx, Int.sub_mul, Int.add_mul, Int.add_mul]
 omega
theorem AD.done {a b o : List Int} {i : Nat} (h : AD a b o i 0) (ha : a.length ≤ i) (hb : b.length ≤ i) : valD o = valD a + valD b := by
 have hv := h.v
 rw [List.take_of_length_le ha, List.take_of_length_le hb] at hv
 omega
structure WF (a : List Int) (b : Int) (q : List Int) (i : Nat) (r : Int) : Prop where
 len : q.length = a.length
 gd : GD q
 r0 : 0 ≤ r ∧ r < b
 v : valD (a.drop i) = valD (q.drop i) * b + r
theorem WF.first {a : List Int} {b : Int} (hb : 0 < b) : WF a b (List.replicate a.length 0) a.length 0 := by
 refine ⟨by simp, GD.rep _, by omega, ?_⟩
 rw [List.drop_of_length_le (by omega), List.drop_of_length_le (by simp)]; simp [valD]
theorem WF.next {a q : List Int} {b r d x : Int} {i : Nat} (h : WF a b q (i + 1) r) (hi : i < a.length) (hd : d = a.getD i default + 1000000000 * r) (hx : 0 ≤ x ∧ x < 1000000000) (hr : 0 ≤ d - b * x ∧ d - b * x < b) : WF a b (q.set i x) i (d - b * x) := by
 have hv := h.v
 have hq : i < q.length := by rw [h.len]; exact hi
 refine ⟨by rw [List.length_set]; exact h.len, h.gd.set _ hx, hr, ?_⟩
 have e2 : (q.set i x).drop i = x :: q.drop (i + 1) := by
  rw [List.drop_eq_getElem_cons (by rw [List.length_set]; exact hq), List.getElem_set_self, List.drop_set_of_lt (by omega)]
 rw [e2, List.drop_eq_getElem_cons hi, valD, valD, hv, Int.add_mul, hd, List.getD_eq_getElem?_getD, List.getElem?_eq_getElem hi, Int.mul_add, Int.mul_assoc, Int.mul_comm b x]
 simp only [Option.getD_some]
 omega
theorem WF.done {a q : List Int} {b r : Int} (h : WF a b q 0 r) : valD q = valD a / b := by
 have hv := h.v
 rw [List.drop_zero, List.drop_zero] at hv
 have := h.r0
 rw [hv, Int.add_comm, Int.add_mul_ediv_right _ _ (by omega), Int.ediv_eq_zero_of_lt this.1 this.2, Int.zero_add]
end Go.Proofs.Ytjhcfpdgldpicaa
