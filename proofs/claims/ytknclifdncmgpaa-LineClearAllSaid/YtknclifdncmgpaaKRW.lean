/- Rows of chapter 1: a slice of bytes, opened for the abstract machine. No conditions on a program. -/
import Derived.Test.YtknclifdncmgpaaKRZ
import Derived.Test.YtknclifdncmgpaaY40
namespace Go.Proofs.Ytknclifdncmgpaa
open Go Go.ChangeShapes Go.WideShapes Go.ChangeAt Go.RowKit Go.Joins Go.Deep
set_option linter.unusedSimpArgs false
set_option linter.unusedVariables false
abbrev Byt := {n : Int // 0 ≤ n ∧ n < 256}
instance : Inhabited Byt := ⟨⟨0, by decide⟩⟩
theorem cByte : Try.prog.cellsOf 5 = 1 := by kernel_rfl
set_option maxRecDepth 100000 in
set_option maxHeartbeats 1000000 in
theorem open_bytes {H : Type} {enc : TypeId × Value → H} {W : World} {base : Nat} {v : Value} {d : DataW H} {p : List MemPlace} (hv : Value.okWide Try.prog W .any base 73 v)
    (h : DataW.Trod enc Try.prog W 0 (fun _ => true) true 73 v d p) : ∃ xs : List Int, (∀ b ∈ xs, 0 ≤ b ∧ b < 256) ∧ R0 (fun _ => False) W (.row 1 (xs.map byE)) v := by
  obtain ⟨a, n, c, rfl⟩ := okWide_slice Try.underlying73 hv
  obtain ⟨fuel, hf⟩ := h
  obtain ⟨l, hl⟩ := row_of_trod (k := 1) (fun a : Byt => byE a.1) (fun _ => rfl) (by omega) Try.underlying73 cByte (fun fuel cs x hlen hx => by
    obtain ⟨z, e, _, hw⟩ := DataW.trod_int Try.underlying5 hx
    have hz : 0 ≤ z ∧ z < 256 := by
      have h2 : (decide (IntKind.u8.min ≤ z) && decide (z ≤ IntKind.u8.max)) = true := hw
      have e1 : IntKind.u8.min = 0 := by decide
      have e2 : IntKind.u8.max = 255 := by decide
      rw [e1, e2] at h2
      simp at h2
      omega
    refine ⟨⟨z, hz⟩, fun j av v h1 h2 => ?_⟩
    subst e
    match j, h1, h2 with
    | 0, h1, h2 => cases h1; cases h2; exact .v _) hf
  refine ⟨l.map (·.1), fun b hb => ?_, ?_⟩
  · obtain ⟨q, _, rfl⟩ := List.mem_map.1 hb; exact q.2
  · rw [List.map_map]; exact hl
end Go.Proofs.Ytknclifdncmgpaa
