/- Texts of this claim, one behind the other: lemmas for the statement. -/
import Derived.Test.YtjhcfpdgldpicaaM2
set_option linter.unusedSimpArgs false
set_option linter.unusedVariables false
namespace Go.Proofs.Ytjhcfpdgldpicaa
open Go Go.RowKit Go.Proofs
section
variable {P : Program} {e : Nat → AV} {mem : List Ob} {d : Option Tmp} {x : Operand} {ty : TypeId} {pos : String} {af : Array Edge} {g : Option (Nat × Bool)}
theorem ro_nilP {j o : Nat} (hx : evA e x = .ptr j o) : OpRO P ⟨d, .nilCheck x, ty, pos, af, g⟩ e mem (.ptr j o) := by
 intro pb w0 θ w ev hs h
 have h1 := h x (by simp [Op.operands])
 rw [hx] at h1
 have h2 := h1
 obtain ⟨b, y, hθ, hbase, hy⟩ := h1.getPtr
 rw [hy] at h2
 unfold execOp; simp only [hy]
 exact ⟨h2, Ext.refl w⟩
theorem ro_nilR {c : List AV} (hx : evA e x = .ref c) : OpRO P ⟨d, .nilCheck x, ty, pos, af, g⟩ e mem (.ref c) := by
 intro pb w0 θ w ev hs h
 have h1 := h x (by simp [Op.operands])
 rw [hx] at h1
 have h2 := h1
 generalize hv : evE ev x = v at h1 h2
 cases h1.getRef with
 | ref _ b o f hb hp hc hr =>
  unfold execOp; simp only [hv]
  exact ⟨h2, Ext.refl w⟩
end
end Go.Proofs.Ytjhcfpdgldpicaa
namespace Go.Proofs.Ytjhcfpdgldpicaa
open Go Go.RowKit Go.Proofs
def InU64 (n : Int) : Prop := 0 ≤ n ∧ n < 18446744073709551616
theorem wrapU_in {n : Int} (h : InU64 n) : IntKind.u64.wrap n = n := by
 unfold InU64 at h
 show n % (18446744073709551616 : Int) = n
 omega
theorem wrapU_eq (n : Int) : IntKind.u64.wrap n = n % 18446744073709551616 := rfl
section
variable {P : Program} {e : Nat → AV} {mem : List Ob} {d : Option Tmp} {x y : Operand} {t t2 ty : TypeId} {pos : String} {af : Array Edge} {g : Option (Nat × Bool)} {k k' : IntKind} {m n : Int}
theorem ro_sh {op : BinOp} (hx : evA e x = .v (.int k m)) (hy : evA e y = .v (.int k' n)) {c : Value} (h : ∀ w, (binOp op t (.int k m) (.int k' n)).run P w = .ok c w) : OpRO P ⟨d, .binOp op t x y t2, ty, pos, af, g⟩ e mem (.v c) :=
 ro_bin hx hy fun w => by rw [Sem.run_bind, guard_int w]; exact h w
theorem ro_shr {c : Int} (hx : evA e x = .v (.int k m)) (hy : evA e y = .v (.int k' n)) (h0 : 0 ≤ n) (hc : ((2 ^ (min n.toNat k.bits) : Nat) : Int) = c) : OpRO P ⟨d, .binOp .shr t x y t2, ty, pos, af, g⟩ e mem (.v (.int k (m / c))) :=
 ro_sh hx hy fun w => by
  subst hc
  simp only [binOp, Op.shift]
  rw [if_neg (by omega)]
  have : m.fdiv (2 ^ min n.toNat k.bits) = m / ((2 ^ min n.toNat k.bits : Nat) : Int) := by
   rw [Int.fdiv_eq_ediv_of_nonneg _ (by exact_mod_cast Nat.zero_le _)]
   norm_cast
  rw [this]; rfl
theorem ro_shl {c : Int} (hx : evA e x = .v (.int k m)) (hy : evA e y = .v (.int k' n)) (h0 : 0 ≤ n) (hc : ((2 ^ (min n.toNat k.bits) : Nat) : Int) = c) : OpRO P ⟨d, .binOp .shl t x y t2, ty, pos, af, g⟩ e mem (.v (.int k (k.wrap (m * c)))) :=
 ro_sh hx hy fun w => by
  subst hc
  simp only [binOp, Op.shift]
  rw [if_neg (by omega)]
  have : m * 2 ^ min n.toNat k.bits = m * ((2 ^ min n.toNat k.bits : Nat) : Int) := by norm_cast
  rw [this]; rfl
theorem and_low {m : Int} (h : InU64 m) (c : Nat) (hc : c ≤ 64) : IntKind.u64.wrap ((BitVec.ofInt 64 m &&& BitVec.ofInt 64 (2 ^ c - 1 : Nat)).toNat : Nat) = m % ((2 ^ c : Nat) : Int) := by
 obtain ⟨h0, h1⟩ := h
 obtain ⟨q, rfl⟩ := Int.eq_ofNat_of_zero_le h0
 have hq : q < 2 ^ 64 := by omega
 have e1 : (BitVec.ofInt 64 (q : Int)).toNat = q := by
  rw [BitVec.ofInt_natCast, BitVec.toNat_ofNat, Nat.mod_eq_of_lt hq]
 have hp : 2 ^ c ≤ 2 ^ 64 := Nat.pow_le_pow_right (by decide) hc
 have hp0 : 0 < 2 ^ c := Nat.pow_pos (by decide)
 have e2 : (BitVec.ofInt 64 ((2 ^ c - 1 : Nat) : Int)).toNat = 2 ^ c - 1 := by
  rw [BitVec.ofInt_natCast, BitVec.toNat_ofNat, Nat.mod_eq_of_lt (by omega)]
 rw [BitVec.toNat_and, e1, e2, Nat.and_two_pow_sub_one_eq_mod]
 have h3 := Nat.mod_le q (2 ^ c)
 rw [wrapU_in ⟨Int.natCast_nonneg _, by omega⟩]
 exact Int.natCast_emod q (2 ^ c)
theorem ro_andL {c : Int} (hx : evA e x = .v (.int .u64 m)) (hy : evA e y = .v (.int .u64 n)) (c0 : Nat) (hn : n = ((2 ^ c0 - 1 : Nat) : Int)) (hc0 : c0 ≤ 64) (hc : ((2 ^ c0 : Nat) : Int) = c) (h : InU64 m) : OpRO P ⟨d, .binOp .and t x y t2, ty, pos, af, g⟩ e mem (.v (.int .u64 (m % c))) :=
 ro_int hx hy fun w => by
  subst hc; subst hn
  rw [bin_kk ⟨by decide, by decide⟩]
  show (Op.intBits .and .u64 m _).run P w = _
  have := and_low h c0 hc0
  unfold Op.intBits
  rw [← this]; rfl
theorem ro_addU (hx : evA e x = .v (.int .u64 m)) (hy : evA e y = .v (.int .u64 n)) (h : InU64 (m + n)) : OpRO P ⟨d, .binOp .add t x y t2, ty, pos, af, g⟩ e mem (.v (.int .u64 (m + n))) := by
 have := ro_add (P := P) (mem := mem) (d := d) (ty := ty) (t := t) (t2 := t2) (pos := pos) (af := af) (g := g) hx hy; rwa [wrapU_in h] at this
theorem ro_subU (hx : evA e x = .v (.int .u64 m)) (hy : evA e y = .v (.int .u64 n)) (h : InU64 (m - n)) : OpRO P ⟨d, .binOp .sub t x y t2, ty, pos, af, g⟩ e mem (.v (.int .u64 (m - n))) := by
 have := ro_sub (P := P) (mem := mem) (d := d) (ty := ty) (t := t) (t2 := t2) (pos := pos) (af := af) (g := g) hx hy; rwa [wrapU_in h] at this
theorem ro_mulU (hx : evA e x = .v (.int .u64 m)) (hy : evA e y = .v (.int .u64 n)) (h : InU64 (m * n)) : OpRO P ⟨d, .binOp .mul t x y t2, ty, pos, af, g⟩ e mem (.v (.int .u64 (m * n))) := by
 have := ro_mul (P := P) (mem := mem) (d := d) (ty := ty) (t := t) (t2 := t2) (pos := pos) (af := af) (g := g) hx hy; rwa [wrapU_in h] at this
theorem ro_quoU (hx : evA e x = .v (.int .u64 m)) (hy : evA e y = .v (.int .u64 n)) (h0 : n ≠ 0) (h : InU64 m ∧ 0 ≤ n) : OpRO P ⟨d, .binOp .quo t x y t2, ty, pos, af, g⟩ e mem (.v (.int .u64 (m / n))) := by
 have := ro_quo (P := P) (mem := mem) (d := d) (ty := ty) (t := t) (t2 := t2) (pos := pos) (af := af) (g := g) hx hy h0
 obtain ⟨⟨h1, h2⟩, h3⟩ := h
 rw [Int.tdiv_eq_ediv_of_nonneg h1, wrapU_in] at this
 ·exact this
 ·exact ⟨Int.ediv_nonneg h1 h3, Int.lt_of_le_of_lt (Int.ediv_le_self _ h1) h2⟩
theorem ro_remU (hx : evA e x = .v (.int .u64 m)) (hy : evA e y = .v (.int .u64 n)) (h0 : n ≠ 0) (h : InU64 m ∧ 0 ≤ n) : OpRO P ⟨d, .binOp .rem t x y t2, ty, pos, af, g⟩ e mem (.v (.int .u64 (m % n))) := by
 have := ro_rem (P := P) (mem := mem) (d := d) (ty := ty) (t := t) (t2 := t2) (pos := pos) (af := af) (g := g) hx hy h0
 rwa [Int.tmod_eq_emod_of_nonneg h.1.1] at this
theorem ro_cv (hx : evA e x = .v (.int k m)) (hs : (P.underlying t).isSome = true) (hd : P.underlying t2 = some (.int k')) : OpRO P ⟨d, .convert t t2 x, ty, pos, af, g⟩ e mem (.v (.int k' (k'.wrap m))) :=
 ro_conv hx t t2 fun w => by
  have hk : P.intKind t2 = k' := by unfold Program.intKind; rw [hd]
  have := run_convert_int (P := P) w t t2 k m hs (by rw [hk]; exact hd)
  rwa [hk] at this
theorem ro_cvU (hx : evA e x = .v (.int k m)) (hs : (P.underlying t).isSome = true) (hd : P.underlying t2 = some (.int .u64)) (h : InU64 m) : OpRO P ⟨d, .convert t t2 x, ty, pos, af, g⟩ e mem (.v (.int .u64 m)) := by
 have := ro_cv (mem := mem) (d := d) (ty := ty) (pos := pos) (af := af) (g := g) hx hs hd; rwa [wrapU_in h] at this
theorem ro_cvI (hx : evA e x = .v (.int k m)) (hs : (P.underlying t).isSome = true) (hd : P.underlying t2 = some (.int .i64)) (h : In64 m) : OpRO P ⟨d, .convert t t2 x, ty, pos, af, g⟩ e mem (.v (.int .i64 m)) := by
 have := ro_cv (mem := mem) (d := d) (ty := ty) (pos := pos) (af := af) (g := g) hx hs hd; rwa [wrap_in h] at this
end
end Go.Proofs.Ytjhcfpdgldpicaa
