/- Lemmas for the statement. -/
import Derived.Test.YtjhcfpdgldpicaaA16
namespace Go.Proofs.Ytjhcfpdgldpicaa
open Go Go.RowKit Go.Proofs
set_option linter.unusedSimpArgs false
set_option linter.unusedVariables false
def CloOk (P : Program) (a : AV) (args : List AV) (ψ : AV → Prop) : Prop := ∃ f l m, a = .clo (.func f) l m ∧ roO.roL l = true ∧ roO.roL m = true ∧ (∀ args w, (callFunc f args).run P w = .ok (.enter f args) w) ∧ FnOk P f (l ++ args ++ m) ψ
section
variable {P : Program} {e : Nat → AV} {mem : List Ob} {d : Option Tmp} {ty : TypeId} {pos : String} {af : Array Edge} {g : Option (Nat × Bool)} {x : Operand}
theorem ro_callo {as : Array Operand} {ts : Array TypeId} {args : List AV} {a r : AV} (hx : evA e x = a) (hargs : evL e as.toList = args) (hro : roO.roL args = true) (h : CloOk P a args (fun q => q = r)) : OpRO P ⟨d, .call ⟨.value x, as, ts⟩, ty, pos, af, g⟩ e mem r := by
 obtain ⟨f, l, m, rfl, h1, h2, h3, h4⟩ := h
 exact ro_callv hx hargs hro h1 h2 h4 h3
end
def oneAV (a : AV) : List AV := [a]
instance : Inhabited AV := ⟨.any⟩
end Go.Proofs.Ytjhcfpdgldpicaa
