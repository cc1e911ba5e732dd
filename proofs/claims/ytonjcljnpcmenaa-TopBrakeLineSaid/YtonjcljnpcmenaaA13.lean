/- The abstract machine: structs compared. No conditions on a program. -/
import Derived.Test.YtonjcljnpcmenaaA12
namespace Go.Proofs.Ytonjcljnpcmenaa
open Go Go.RowKit Go.Proofs
set_option linter.unusedSimpArgs false
set_option linter.unusedVariables false

section
variable {P : Program}
/-- Two values of a type are alike, or not. -/
def EqV (P : Program) (h : Nat) (T : TypeId) (x y : Value) (b : Bool) : Prop := ∀ (d : Nat) (w : World), (Op.equalIn (d + h) T x y).run P w = .ok b w
theorem EqV.up {h : Nat} {T : TypeId} {x y : Value} {b : Bool} (hv : EqV P h T x y b) (k : Nat) : EqV P (h + k) T x y b := fun d w => by
  rw [show d + (h + k) = (d + k) + h by omega]; exact hv _ w
section
variable {e : Nat → AV} {mem : List Ob} {d : Option Tmp} {ty t t2 : TypeId} {pos : String} {af : Array Edge} {g : Option (Nat × Bool)} {x y : Operand}
end
end
end Go.Proofs.Ytonjcljnpcmenaa
