/- Rows of chapter 5: a slice of numbers, opened for the abstract machine. No conditions on a program. -/
import Derived.Test.YtelgkjekpcfffaaKR
namespace Go.Proofs.Ytelgkjekpcfffaa
open Go Go.ChangeShapes Go.WideShapes Go.ChangeAt Go.RowKit Go.Joins Go.Deep
set_option linter.unusedSimpArgs false
set_option linter.unusedVariables false
def iC (n : Int) : List Value := [.int .i64 n]
set_option maxRecDepth 100000 in
set_option maxHeartbeats 1000000 in
theorem ints_of_trod {H : Type} {enc : TypeId × Value → H} {W : World} {fuel : Nat} {c0 : Value} {y : DataW H × List MemPlace} (h : DataW.trod enc Try.prog W 0 (fun _ => true) true fuel 30 [c0] = some y) :
    ∃ xs : List Int, R0 (fun _ => False) W (.row 1 (xs.map iE)) c0 := by
  obtain ⟨a, n, c, l, e, hl, hc, hr⟩ := rd_of_trod (k := 1) iC (fun _ => rfl) (by omega) Try.underlying30 cInt (fun fuel cs x hlen hx => by
    obtain ⟨z0, e0, _⟩ := DataW.trod_int Try.underlying3 hx
    exact ⟨z0, e0⟩) h
  subst e
  exact ⟨l, r0_row (f := iC) (g := iE) (k := 1) (fun _ => rfl) (fun _ => rfl) (fun _ h => h) hl hc hr⟩
set_option maxRecDepth 100000 in
set_option maxHeartbeats 1000000 in
theorem open_intS {H : Type} {enc : TypeId × Value → H} {W : World} {base : Nat} {v : Value} {d : DataW H} {p : List MemPlace} (hv : Value.okWide Try.prog W .any base 30 v)
    (h : DataW.Trod enc Try.prog W 0 (fun _ => true) true 30 v d p) : ∃ xs : List Int, R0 (fun _ => False) W (.row 1 (xs.map iE)) v := by
  obtain ⟨a, n, c, rfl⟩ := okWide_slice Try.underlying30 hv
  obtain ⟨fuel, hf⟩ := h
  exact ints_of_trod hf
end Go.Proofs.Ytelgkjekpcfffaa
