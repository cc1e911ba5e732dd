/- Rows of the top: a trip of a train, opened for the abstract machine. No conditions on a program. -/
import Derived.Test.YtonjcljnpcmenaaKRY
import Derived.Test.YtonjcljnpcmenaaM13
namespace Go.Proofs.Ytonjcljnpcmenaa
open Go Go.ChangeShapes Go.WideShapes Go.ChangeAt Go.RowKit Go.Joins Go.Deep
set_option linter.unusedSimpArgs false
set_option linter.unusedVariables false
theorem list5T {α : Type} {l : List α} (h : l.length = 5) : ∃ a b c d e, l = [a, b, c, d, e] := by
  match l, h with
  | [a, b, c, d, e], _ => exact ⟨a, b, c, d, e, rfl⟩
theorem cBol : Try.prog.cellsOf 4 = 1 := by kernel_rfl
theorem cBols : Try.prog.cellsOf 94 = 1 := by kernel_rfl
theorem cSys : Try.prog.cellsOf 93 = 3 := by kernel_rfl
theorem cTrp : Try.prog.cellsOf 96 = 5 := by kernel_rfl
set_option maxRecDepth 100000 in
set_option maxHeartbeats 1000000 in
theorem bools_of_trod {H : Type} {enc : TypeId × Value → H} {W : World} {fuel : Nat} {c0 : Value} {y : DataW H × List MemPlace} (h : DataW.trod enc Try.prog W 0 (fun _ => true) true fuel 94 [c0] = some y) :
    ∃ xs : List Bool, R0 (fun _ => False) W (.row 1 (xs.map boE)) c0 :=
  row_of_trod boE (fun _ => rfl) (by omega) Try.underlying94 cBol (fun fuel cs x hlen hx => by
    obtain ⟨z, e, _⟩ := DataW.trod_bool Try.underlying4 hx
    refine ⟨z, fun j av v h1 h2 => ?_⟩
    subst e
    match j, h1, h2 with
    | 0, h1, h2 => cases h1; cases h2; exact .v _) h
set_option maxRecDepth 100000 in
set_option maxHeartbeats 1000000 in
theorem sys_of_trod {H : Type} {enc : TypeId × Value → H} {W : World} {fuel : Nat} {c0 c1 c2 : Value} {y : DataW H × List MemPlace} (h : DataW.trod enc Try.prog W 0 (fun _ => true) true fuel 93 [c0, c1, c2] = some y) :
    ∃ a b c : Int, c0 = .int .i64 a ∧ c1 = .int .i64 b ∧ c2 = .int .i64 c := by
  obtain ⟨y0, y1, y2, n, hx, _, h0, h1, h2⟩ := trod_struct3 Try.underlying93 h
  simp [cInt] at h0 h1 h2
  obtain ⟨z0, e0, _⟩ := DataW.trod_int Try.underlying3 h0
  obtain ⟨z1, e1, _⟩ := DataW.trod_int Try.underlying3 h1
  obtain ⟨z2, e2, _⟩ := DataW.trod_int Try.underlying3 h2
  simp at e0 e1 e2
  exact ⟨z0, z1, z2, e0, e1, e2⟩
set_option maxRecDepth 100000 in
set_option maxHeartbeats 1000000 in
/-- A trip, opened. -/
theorem open_trip {H : Type} {enc : TypeId × Value → H} {W : World} {base : Nat} {v : Value} {d : DataW H} {p : List MemPlace} (hv : Value.okWide Try.prog W .any base 96 v)
    (h : DataW.Trod enc Try.prog W 0 (fun _ => true) true 96 v d p) : ∃ (n a b y : Int) (xs : List Bool), R0 (fun _ => False) W (.agg [.v (.int .i64 n), .v (.int .i64 a), .v (.int .i64 b), .v (.int .i64 y), .row 1 (xs.map boE)]) v := by
  obtain ⟨cs, rfl, hsz⟩ := okWide_struct Try.underlying96 hv
  rw [cTrp] at hsz
  obtain ⟨c0, c1, c2, c3, c4, rfl⟩ : ∃ c0 c1 c2 c3 c4, cs = #[c0, c1, c2, c3, c4] := by
    obtain ⟨a, b, c, d, f, e⟩ := list5T (l := cs.toList) (by simpa using hsz)
    exact ⟨a, b, c, d, f, by rw [← Array.toArray_toList (xs := cs), e]⟩
  obtain ⟨fuel, hf⟩ := h
  obtain ⟨y0, y1, y2, n, hx, _, h0, h1, h2⟩ := trod_struct3 Try.underlying96 hf
  simp [Value.cells, cInt, cSys, cBols] at h0 h1 h2
  obtain ⟨a, b, c, rfl, rfl, rfl⟩ := sys_of_trod h0
  obtain ⟨z1, e1, _⟩ := DataW.trod_int Try.underlying3 h1
  obtain ⟨xs, hr⟩ := bools_of_trod h2
  simp at e1
  subst e1
  refine ⟨a, b, c, z1, xs, r0_agg (xs := [_, _, _, _, _]) rfl fun i a x ha hx => ?_⟩
  match i, ha, hx with
  | 0, ha, hx => cases ha; cases hx; exact .v _
  | 1, ha, hx => cases ha; cases hx; exact .v _
  | 2, ha, hx => cases ha; cases hx; exact .v _
  | 3, ha, hx => cases ha; cases hx; exact .v _
  | 4, ha, hx => cases ha; cases hx; exact hr
end Go.Proofs.Ytonjcljnpcmenaa
