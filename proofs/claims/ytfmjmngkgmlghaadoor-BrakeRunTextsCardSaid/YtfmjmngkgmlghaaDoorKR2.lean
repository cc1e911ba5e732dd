/- Rows of chapter 5: more arguments opened for the abstract machine. No conditions on a program. -/
import Derived.Test.YtfmjmngkgmlghaaDoorM5
namespace Go.Proofs.YtfmjmngkgmlghaaDoor
open Go Go.ChangeShapes Go.WideShapes Go.ChangeAt Go.RowKit Go.Joins Go.Deep
set_option linter.unusedSimpArgs false
set_option linter.unusedVariables false
theorem cRun : Tryd.prog.cellsOf 37 = 2 := by kernel_rfl
theorem two_ints {W : World} {a b : Int} : R0 (fun _ => False) W (.agg [iA a, iA b]) (.agg #[.int .i64 a, .int .i64 b]) := by
  refine r0_agg (xs := [_, _]) rfl fun i a x ha hx => ?_
  match i, ha, hx with
  | 0, ha, hx => cases ha; cases hx; exact .v _
  | 1, ha, hx => cases ha; cases hx; exact .v _
end Go.Proofs.YtfmjmngkgmlghaaDoor
