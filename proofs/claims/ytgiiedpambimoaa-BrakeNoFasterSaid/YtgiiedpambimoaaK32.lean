/- Contracts of chapter 5, asked rightly. No conditions on a program. -/
import Derived.Test.YtgiiedpambimoaaK18
namespace Go.Proofs.Ytgiiedpambimoaa
open Go Go.RowKit Go.Proofs
set_option linter.unusedSimpArgs false
set_option linter.unusedVariables false

section
variable {nm : ByteArray} {ps : List Piece} (hs : nm.size ≤ 1000000000) (hp : ps.length ≤ 1000000000) {b d v post sq stop : Int} (hq : runE nm ps b d v post sq stop = 0) (hc : curE nm ps b d v stop = 0)
include hs hp
theorem curveOf2_ok (hc : curE nm ps b d v stop = 0) : FnOk Try.prog 34 [trA nm ps, syA b d v, iA stop] (fun q => q = .tuple [.row 1 ((bwL ps b 0 (stop + 1).toNat).map iE), iA 0]) :=
  (curveOf_ok nm ps hs hp b d v stop).mono fun q h => h.trans (by rw [hc, if_pos rfl])
theorem runTo3_ok (hq : runE nm ps b d v post sq stop = 0) : FnOk Try.prog 36 [trA nm ps, syA b d v, .agg [iA post, iA sq], iA stop] (fun q => q = .tuple [.row 1 ((runW ps b d stop post sq).1.map iE), iA (runW ps b d stop post sq).2]) :=
  (runTo_ok nm ps hs hp b d v post sq stop).mono fun q h => h.trans (by rw [hq, if_pos rfl, if_pos rfl])
end
theorem runE_zero {nm : ByteArray} {ps : List Piece} {b d v post sq stop : Int} (hB : firstE [(chk nm ps).2, sysE b d v] = 0) (hS : stateE ps post sq = 0) (hT : stopE ps stop = 0) (hle : post ≤ stop) : runE nm ps b d v post sq stop = 0 ∧ curE nm ps b d v stop = 0 := by
  constructor
  · rw [runE_d, d2R, d1R, if_pos hB, if_pos hS, if_neg (by omega)]; exact hT
  · have h : curE nm ps b d v stop = firstE [firstE [(chk nm ps).2, sysE b d v], stopE ps stop] := rfl
    rw [h, firstE_two, if_pos hB]; exact hT
end Go.Proofs.Ytgiiedpambimoaa
