/- Abstract machine: shifts, bits, unsigned numbers, conversions. No conditions on a program. -/
import Derived.Test.YtfmjmngkgmlghaaDoorA23
namespace Go.Proofs.YtfmjmngkgmlghaaDoor
open Go Go.RowKit Go.Proofs
set_option linter.unusedSimpArgs false
set_option linter.unusedVariables false
def InU64 (n : Int) : Prop := 0 ≤ n ∧ n < 18446744073709551616
section
variable {P : Program} {e : Nat → AV} {mem : List Ob} {d : Option Tmp} {x y : Operand} {t t2 ty : TypeId} {pos : String} {af : Array Edge} {g : Option (Nat × Bool)} {k k' : IntKind} {m n : Int}
theorem ro_cv (hx : evA e x = .v (.int k m)) (hs : (P.underlying t).isSome = true) (hd : P.underlying t2 = some (.int k')) : OpRO P ⟨d, .convert t t2 x, ty, pos, af, g⟩ e mem (.v (.int k' (k'.wrap m))) :=
  ro_conv hx t t2 fun w => by
    have hk : P.intKind t2 = k' := by unfold Program.intKind; rw [hd]
    have := run_convert_int (P := P) w t t2 k m hs (by rw [hk]; exact hd)
    rwa [hk] at this
theorem ro_cvI (hx : evA e x = .v (.int k m)) (hs : (P.underlying t).isSome = true) (hd : P.underlying t2 = some (.int .i64)) (h : In64 m) : OpRO P ⟨d, .convert t t2 x, ty, pos, af, g⟩ e mem (.v (.int .i64 m)) := by
  have := ro_cv (mem := mem) (d := d) (ty := ty) (pos := pos) (af := af) (g := g) hx hs hd; rwa [wrap_in h] at this
end
end Go.Proofs.YtfmjmngkgmlghaaDoor
