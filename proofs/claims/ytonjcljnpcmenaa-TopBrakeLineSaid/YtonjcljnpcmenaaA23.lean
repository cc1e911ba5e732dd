/- Abstract machine: the check that a pointer is not nil. -/
import Derived.Test.YtonjcljnpcmenaaA22
namespace Go.Proofs.Ytonjcljnpcmenaa
open Go Go.RowKit Go.Proofs
set_option linter.unusedSimpArgs false
set_option linter.unusedVariables false
section
variable {P : Program} {e : Nat → AV} {mem : List Ob} {d : Option Tmp} {x : Operand} {ty : TypeId} {pos : String} {af : Array Edge} {g : Option (Nat × Bool)}
theorem ro_nilP {j o : Nat} (hx : evA e x = .ptr j o) : OpRO P ⟨d, .nilCheck x, ty, pos, af, g⟩ e mem (.ptr j o) := by
  intro pb w0 θ w ev hs h
  have h1 := h x (by simp [Op.operands])
  rw [hx] at h1
  have h2 := h1
  obtain ⟨b, y, hθ, hbase, hy⟩ := h1.getPtr
  rw [hy] at h2
  unfold execOp; simp only [hy]
  exact ⟨h2, Ext.refl w⟩
theorem ro_nilR {c : List AV} (hx : evA e x = .ref c) : OpRO P ⟨d, .nilCheck x, ty, pos, af, g⟩ e mem (.ref c) := by
  intro pb w0 θ w ev hs h
  have h1 := h x (by simp [Op.operands])
  rw [hx] at h1
  have h2 := h1
  generalize hv : evE ev x = v at h1 h2
  cases h1.getRef with
  | ref _ b o f hb hp hc hr =>
    unfold execOp; simp only [hv]
    exact ⟨h2, Ext.refl w⟩
end
end Go.Proofs.Ytonjcljnpcmenaa
