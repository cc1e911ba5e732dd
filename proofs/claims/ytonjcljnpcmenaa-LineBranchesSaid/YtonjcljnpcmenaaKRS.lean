/- Rows: a text, opened for the abstract machine. No conditions on a program. -/
import Derived.Test.YtonjcljnpcmenaaKRY
namespace Go.Proofs.Ytonjcljnpcmenaa
open Go Go.ChangeShapes Go.WideShapes Go.ChangeAt Go.RowKit Go.Joins Go.Deep
set_option linter.unusedSimpArgs false
set_option linter.unusedVariables false
set_option maxRecDepth 100000 in
set_option maxHeartbeats 1000000 in
/-- A text, opened. -/
theorem open_text {H : Type} {enc : TypeId × Value → H} {W : World} {base : Nat} {v : Value} {d : DataW H} {p : List MemPlace} (hv : Value.okWide Try.prog W .any base 9 v)
    (h : DataW.Trod enc Try.prog W 0 (fun _ => true) true 9 v d p) : ∃ n : ByteArray, R0 (fun _ => False) W (.v (.string n)) v := by
  obtain ⟨z, rfl⟩ : ∃ z, v = .string z := by
    simp only [Value.okWide, Try.underlying9] at hv
    cases v <;> first | exact ⟨_, rfl⟩ | (exfalso; simp at hv; done) | exact hv.elim
  exact ⟨z, .v _⟩
end Go.Proofs.Ytonjcljnpcmenaa
