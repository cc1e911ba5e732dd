/- Texts of this claim, one behind the other: lemmas for the statement. -/
import Derived.Test.YtgiiedpambimoaaDoorM3
import Derived.Test.YtgiiedpambimoaaDoorApp
import Derived.Test.YtgiiedpambimoaaDoorRange
/- Walks: copies in memory of their own. -/
namespace Go.Proofs.YtgiiedpambimoaaDoor
open Go Go.RowKit Go.Proofs
set_option linter.unusedSimpArgs false
set_option linter.unusedVariables false

theorem info2 : (Tryd.prog.info? 24).map (fun i => (i.zero, i.size, i.bytes)) = some (some (.agg #[.int .i64 0, .int .i64 0]), 2, 16) := by kernel_rfl
theorem info1 : (Tryd.prog.info? 3).map (fun i => (i.zero, i.size, i.bytes)) = some (some (.int .i64 0), 1, 8) := by kernel_rfl

end Go.Proofs.YtgiiedpambimoaaDoor

/- Walks: the iterator of overlaps. -/
namespace Go.Proofs.YtgiiedpambimoaaDoor
open Go Go.RowKit Go.Proofs
set_option linter.unusedSimpArgs false
set_option linter.unusedVariables false
attribute [local go_sem] Oper.semAt_some

/-- The partial sums. -/
def fr : Int → List Int → Nat → Int
  | f, _, 0 => f
  | f, [], _ => f
  | f, l :: ls, k + 1 => fr (wrap64 (f + l)) ls k
end Go.Proofs.YtgiiedpambimoaaDoor

