/- The abstract machine: variables of packages that are read alone; arrays with places that are told while it runs. No conditions on a program. -/
import Derived.Test.YtgiiedpambimoaaA15
namespace Go.Proofs.Ytgiiedpambimoaa
open Go Go.RowKit
set_option linter.unusedVariables false
set_option linter.unusedSimpArgs false
/-- What variables of packages hold. -/
def GlobR (pr : Nat → Prop) (w : World) (gs : List (Nat × List AV)) : Prop := ∀ x ∈ gs, R0 pr w (.ref x.2) (.pointer (some ⟨x.1, 0, none⟩))
/-- A function's contract that leans on variables of packages. -/
def FnOkG (P : Program) (gs : List (Nat × List AV)) (f : FuncId) (args : List AV) (ψ : AV → Prop) : Prop :=
  ∀ (pr : Nat → Prop) (w : World) (vs : List Value), vs.length = args.length → (∀ (i : Nat) (a : AV) (x : Value), args[i]? = some a → vs[i]? = some x → R0 pr w a x) → GlobR pr w gs →
    Calls P f vs.toArray w fun en w' => ∃ r v, en = .returned v ∧ ψ r ∧ R0 (fun b => pr b ∧ b < w.heap.size) w' r v ∧ Ext w w'
theorem FnOkG.mono {P : Program} {gs : List (Nat × List AV)} {f : FuncId} {args : List AV} {ψ ψ' : AV → Prop} (h : FnOkG P gs f args ψ) (hp : ∀ r, ψ r → ψ' r) : FnOkG P gs f args ψ' := fun pr w vs h1 h2 h3 =>
  (h pr w vs h1 h2 h3).mono fun _ _ ⟨r, v, h3, h4, h5⟩ => ⟨r, v, h3, hp r h4, h5⟩
theorem FnOkG.wide {P : Program} {gs gs' : List (Nat × List AV)} {f : FuncId} {args : List AV} {ψ : AV → Prop} (h : FnOkG P gs f args ψ) (hs : ∀ x ∈ gs, x ∈ gs') : FnOkG P gs' f args ψ := fun pr w vs h1 h2 h3 => h pr w vs h1 h2 fun x hx => h3 x (hs x hx)
section
variable {P : Program} {N : Nat} {Q : AQ} {e : Nat → AV} {mem : List Ob} {d : Option Tmp} {ty t t2 : TypeId} {pos : String} {af : Array Edge} {g : Option (Nat × Bool)} {x y z : Operand}
theorem SimM.glob {pb : Nat → Prop} {w0 : Bs} {w : World} {θ : List Value} (hs : SimM pb w0 w θ mem) {j : Nat} {gs : List (Nat × List AV)} (hm : mem[j]? = some (.glob gs)) : GlobR (Prot pb θ mem) w gs := by
  have hj : j < θ.length := by rw [hs.len]; exact (List.getElem?_eq_some_iff.1 hm).1
  exact (hs.ob j _ _ hm (List.getElem?_eq_getElem hj)).2
/-! ### Arrays -/
end
/-- Arguments that stand for less. -/
theorem FnOk.sub {P : Program} {f : FuncId} {args args' : List AV} {ψ : AV → Prop} (hc : FnOk P f args ψ) (hl : args'.length = args.length) (h : ∀ (pr : Nat → Prop) (w : World) (i : Nat) (a : AV) (x : Value), args[i]? = some a → ∃ a', args'[i]? = some a' ∧ (R0 pr w a' x → R0 pr w a x)) : FnOk P f args' ψ :=
  fun pr w vs h1 h2 => hc pr w vs (by omega) fun i a x ha hx => by
    obtain ⟨a', h3, h4⟩ := h pr w i a x ha
    exact h4 (h2 i a' x h3 hx)
end Go.Proofs.Ytgiiedpambimoaa
