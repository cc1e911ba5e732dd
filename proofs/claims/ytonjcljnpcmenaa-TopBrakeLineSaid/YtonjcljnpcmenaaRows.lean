/-
  No cell of these rows narrows 'for every input' (looked for: loops, veiled, ifaces, maps, wideKeys, modest, calm, conditions, laid).
  DERIVED. THE GIVEN ROWS OF THIS SEAT. 9 by the template 'for every input the law returns true; each argument reads behind the call as it read before'; 0 by the template 'total and deterministic' (their statements: YtonjcljnpcmenaaTotals.lean).
  GIVEN WITH THE SEED: the statements are not yours to turn. If you find one false, say at which input.
  Laid BY PROGRAM, IN A SANDBOX (cutbox-rows.mjs): the forced cells as the released guide's own fill.sh prints them over the translation 3bdbb9e3190bd519… (all of the seat's roots in one cut). By AI agents, Wed Nov 11 2026. No macro, syntax, notation, axiom, sorry.
-/
import Derived.Test.YtonjcljnpcmenaaChecked
import GoSem.Claim
import GoSem.ClaimJoined
import GoSem.ClaimMapViews
import Derived.JoinedTies
import Derived.KernelRfl
namespace Go.Proofs.Ytonjcljnpcmenaa
/- THE CELL 'sum', in the pinned program and in every row, IS THE sha256 OF THE DUMP (.gsa) THAT YtonjcljnpcmenaaProg.lean LOADS. Nothing in Lean hashes anything: it is a label: what it is worth is what the hold of that sum in a sandbox is worth. -/
noncomputable def Try.pinned : Pinned := { name := "ytonjcljnpcmenaa", sum := "3bdbb9e3190bd519267c33ab0cbd3a6505995235dac074a6418842c0c4256c19", checked := Try.checked }
namespace Rows
def none {H : Type} : Left H := { results := [], args := [] }

/-- 'guidewaylaw01.LinePoses': WHATEVER THE INPUT: true; the input reads as it did. -/
def linePosesSpec : ChangeSpec := { name := "linePoses", fn := fun _ => fun
  | [d1, d2, d3] => { results := [.lit (.bool true)], args := [d1, d2, d3] }
  | _ => none }
def linePosesRow : OpenClaim := { program := "ytonjcljnpcmenaa", sum := "3bdbb9e3190bd519267c33ab0cbd3a6505995235dac074a6418842c0c4256c19", func := "guideway/guidewaylaw01.LinePoses", spec := "linePoses", unfollowed := true, recurses := true, named := ["math/bits.divideError", "math/bits.overflowError"], apart := false }
def LinePosesSaid : Prop := linePosesRow.holds Try.pinned (OpenSpec.ofChange linePosesSpec)

/-- ITS FALSE NEIGHBOUR: 'it returns false'. Refute it at one input. -/
def linePosesWrong : ChangeSpec := { name := "linePoses", fn := fun _ => fun
  | [d1, d2, d3] => { results := [.lit (.bool false)], args := [d1, d2, d3] }
  | _ => none }
def LinePosesWrongFalsely : Prop := linePosesRow.holds Try.pinned (OpenSpec.ofChange linePosesWrong)

/-- 'guidewaylaw01.LineLimits': WHATEVER THE INPUT: true; the input reads as it did. -/
def lineLimitsSpec : ChangeSpec := { name := "lineLimits", fn := fun _ => fun
  | [d1, d2, d3] => { results := [.lit (.bool true)], args := [d1, d2, d3] }
  | _ => none }
def lineLimitsRow : OpenClaim := { program := "ytonjcljnpcmenaa", sum := "3bdbb9e3190bd519267c33ab0cbd3a6505995235dac074a6418842c0c4256c19", func := "guideway/guidewaylaw01.LineLimits", spec := "lineLimits", unfollowed := true, recurses := true, named := ["math/bits.divideError", "math/bits.overflowError"], apart := false }
def LineLimitsSaid : Prop := lineLimitsRow.holds Try.pinned (OpenSpec.ofChange lineLimitsSpec)

/-- ITS FALSE NEIGHBOUR: 'it returns false'. Refute it at one input. -/
def lineLimitsWrong : ChangeSpec := { name := "lineLimits", fn := fun _ => fun
  | [d1, d2, d3] => { results := [.lit (.bool false)], args := [d1, d2, d3] }
  | _ => none }
def LineLimitsWrongFalsely : Prop := lineLimitsRow.holds Try.pinned (OpenSpec.ofChange lineLimitsWrong)

/-- 'guidewaylaw01.LinePermitted': WHATEVER THE INPUT: true; the input reads as it did. -/
def linePermittedSpec : ChangeSpec := { name := "linePermitted", fn := fun _ => fun
  | [d1, d2, d3] => { results := [.lit (.bool true)], args := [d1, d2, d3] }
  | _ => none }
def linePermittedRow : OpenClaim := { program := "ytonjcljnpcmenaa", sum := "3bdbb9e3190bd519267c33ab0cbd3a6505995235dac074a6418842c0c4256c19", func := "guideway/guidewaylaw01.LinePermitted", spec := "linePermitted", unfollowed := true, recurses := true, named := ["math/bits.divideError", "math/bits.overflowError"], apart := false }
def LinePermittedSaid : Prop := linePermittedRow.holds Try.pinned (OpenSpec.ofChange linePermittedSpec)

/-- ITS FALSE NEIGHBOUR: 'it returns false'. Refute it at one input. -/
def linePermittedWrong : ChangeSpec := { name := "linePermitted", fn := fun _ => fun
  | [d1, d2, d3] => { results := [.lit (.bool false)], args := [d1, d2, d3] }
  | _ => none }
def LinePermittedWrongFalsely : Prop := linePermittedRow.holds Try.pinned (OpenSpec.ofChange linePermittedWrong)

/-- 'guidewaylaw01.LineSurveys': WHATEVER THE INPUT: true; the input reads as it did. -/
def lineSurveysSpec : ChangeSpec := { name := "lineSurveys", fn := fun _ => fun
  | [d1, d2] => { results := [.lit (.bool true)], args := [d1, d2] }
  | _ => none }
def lineSurveysRow : OpenClaim := { program := "ytonjcljnpcmenaa", sum := "3bdbb9e3190bd519267c33ab0cbd3a6505995235dac074a6418842c0c4256c19", func := "guideway/guidewaylaw01.LineSurveys", spec := "lineSurveys", unfollowed := true, recurses := true, named := ["math/bits.divideError", "math/bits.overflowError"], apart := false }
def LineSurveysSaid : Prop := lineSurveysRow.holds Try.pinned (OpenSpec.ofChange lineSurveysSpec)

/-- ITS FALSE NEIGHBOUR: 'it returns false'. Refute it at one input. -/
def lineSurveysWrong : ChangeSpec := { name := "lineSurveys", fn := fun _ => fun
  | [d1, d2] => { results := [.lit (.bool false)], args := [d1, d2] }
  | _ => none }
def LineSurveysWrongFalsely : Prop := lineSurveysRow.holds Try.pinned (OpenSpec.ofChange lineSurveysWrong)

/-- 'guidewaylaw01.LineBranches': WHATEVER THE INPUT: true; the input reads as it did. -/
def lineBranchesSpec : ChangeSpec := { name := "lineBranches", fn := fun _ => fun
  | [d1, d2, d3] => { results := [.lit (.bool true)], args := [d1, d2, d3] }
  | _ => none }
def lineBranchesRow : OpenClaim := { program := "ytonjcljnpcmenaa", sum := "3bdbb9e3190bd519267c33ab0cbd3a6505995235dac074a6418842c0c4256c19", func := "guideway/guidewaylaw01.LineBranches", spec := "lineBranches", unfollowed := true, recurses := true, named := ["math/bits.divideError", "math/bits.overflowError"], apart := false }
def LineBranchesSaid : Prop := lineBranchesRow.holds Try.pinned (OpenSpec.ofChange lineBranchesSpec)

/-- ITS FALSE NEIGHBOUR: 'it returns false'. Refute it at one input. -/
def lineBranchesWrong : ChangeSpec := { name := "lineBranches", fn := fun _ => fun
  | [d1, d2, d3] => { results := [.lit (.bool false)], args := [d1, d2, d3] }
  | _ => none }
def LineBranchesWrongFalsely : Prop := lineBranchesRow.holds Try.pinned (OpenSpec.ofChange lineBranchesWrong)

/-- 'guidewaylaw01.LineTurned': WHATEVER THE INPUT: true; the input reads as it did. -/
def lineTurnedSpec : ChangeSpec := { name := "lineTurned", fn := fun _ => fun
  | [d1, d2] => { results := [.lit (.bool true)], args := [d1, d2] }
  | _ => none }
def lineTurnedRow : OpenClaim := { program := "ytonjcljnpcmenaa", sum := "3bdbb9e3190bd519267c33ab0cbd3a6505995235dac074a6418842c0c4256c19", func := "guideway/guidewaylaw01.LineTurned", spec := "lineTurned", unfollowed := true, recurses := true, named := ["math/bits.divideError", "math/bits.overflowError"], apart := false }
def LineTurnedSaid : Prop := lineTurnedRow.holds Try.pinned (OpenSpec.ofChange lineTurnedSpec)

/-- ITS FALSE NEIGHBOUR: 'it returns false'. Refute it at one input. -/
def lineTurnedWrong : ChangeSpec := { name := "lineTurned", fn := fun _ => fun
  | [d1, d2] => { results := [.lit (.bool false)], args := [d1, d2] }
  | _ => none }
def LineTurnedWrongFalsely : Prop := lineTurnedRow.holds Try.pinned (OpenSpec.ofChange lineTurnedWrong)

/-- 'guidewaylaw01.LineStraight': WHATEVER THE INPUT: true; the input reads as it did. -/
def lineStraightSpec : ChangeSpec := { name := "lineStraight", fn := fun _ => fun
  | [d1, d2, d3] => { results := [.lit (.bool true)], args := [d1, d2, d3] }
  | _ => none }
def lineStraightRow : OpenClaim := { program := "ytonjcljnpcmenaa", sum := "3bdbb9e3190bd519267c33ab0cbd3a6505995235dac074a6418842c0c4256c19", func := "guideway/guidewaylaw01.LineStraight", spec := "lineStraight", unfollowed := true, recurses := true, named := ["math/bits.divideError", "math/bits.overflowError"], apart := false }
def LineStraightSaid : Prop := lineStraightRow.holds Try.pinned (OpenSpec.ofChange lineStraightSpec)

/-- ITS FALSE NEIGHBOUR: 'it returns false'. Refute it at one input. -/
def lineStraightWrong : ChangeSpec := { name := "lineStraight", fn := fun _ => fun
  | [d1, d2, d3] => { results := [.lit (.bool false)], args := [d1, d2, d3] }
  | _ => none }
def LineStraightWrongFalsely : Prop := lineStraightRow.holds Try.pinned (OpenSpec.ofChange lineStraightWrong)

/-- 'guidewaytop.TopLineBranches': WHATEVER THE INPUT: true; the input reads as it did. -/
def topLineBranchesSpec : ChangeSpec := { name := "topLineBranches", fn := fun _ => fun
  | [d1, d2, d3] => { results := [.lit (.bool true)], args := [d1, d2, d3] }
  | _ => none }
def topLineBranchesRow : OpenClaim := { program := "ytonjcljnpcmenaa", sum := "3bdbb9e3190bd519267c33ab0cbd3a6505995235dac074a6418842c0c4256c19", func := "guideway/guidewaytop.TopLineBranches", spec := "topLineBranches", unfollowed := true, recurses := true, named := ["math/bits.divideError", "math/bits.overflowError"], apart := false }
def TopLineBranchesSaid : Prop := topLineBranchesRow.holds Try.pinned (OpenSpec.ofChange topLineBranchesSpec)

/-- ITS FALSE NEIGHBOUR: 'it returns false'. Refute it at one input. -/
def topLineBranchesWrong : ChangeSpec := { name := "topLineBranches", fn := fun _ => fun
  | [d1, d2, d3] => { results := [.lit (.bool false)], args := [d1, d2, d3] }
  | _ => none }
def TopLineBranchesWrongFalsely : Prop := topLineBranchesRow.holds Try.pinned (OpenSpec.ofChange topLineBranchesWrong)

/-- 'guidewaytop.TopBrakeLine': WHATEVER THE INPUT: true; the input reads as it did. -/
def topBrakeLineSpec : ChangeSpec := { name := "topBrakeLine", fn := fun _ => fun
  | [d1, d2] => { results := [.lit (.bool true)], args := [d1, d2] }
  | _ => none }
def topBrakeLineRow : OpenClaim := { program := "ytonjcljnpcmenaa", sum := "3bdbb9e3190bd519267c33ab0cbd3a6505995235dac074a6418842c0c4256c19", func := "guideway/guidewaytop.TopBrakeLine", spec := "topBrakeLine", unfollowed := true, recurses := true, named := ["math/bits.divideError", "math/bits.overflowError"], apart := false }
def TopBrakeLineSaid : Prop := topBrakeLineRow.holds Try.pinned (OpenSpec.ofChange topBrakeLineSpec)

/-- ITS FALSE NEIGHBOUR: 'it returns false'. Refute it at one input. -/
def topBrakeLineWrong : ChangeSpec := { name := "topBrakeLine", fn := fun _ => fun
  | [d1, d2] => { results := [.lit (.bool false)], args := [d1, d2] }
  | _ => none }
def TopBrakeLineWrongFalsely : Prop := topBrakeLineRow.holds Try.pinned (OpenSpec.ofChange topBrakeLineWrong)

/- THE SECOND FORM. 'bulk': how many values and letters a reading holds, each counted each time it is reached (what is shared counts as often as it is met; a slice's spare places count too). A statement '..UptoSaid' is the law's where the arguments, and the package variables that the reading takes, are together of bulk at most 1048576: NARROWER than '..Said'. Prove '..Said' where nothing that the law and all that it calls make is longer than what came in: it says more and counts as full. Else prove '..UptoSaid'. A law counts once. -/
mutual
def uptoBulk {H : Type} : DataW H → Nat
  | .lit (.string bytes) => bytes.length + 1
  | .lit _ => 1
  | .nil => 1
  | .ptr d => uptoBulk d + 1
  | .slice elems spare => uptoBulkAll elems + uptoBulkAll spare + 1
  | .agg parts => uptoBulkAll parts + 1
  | .iface _ d => uptoBulk d + 1
  | .map entries => uptoBulkEntries entries + 1
  | .held _ => 1
def uptoBulkAll {H : Type} : List (DataW H) → Nat
  | [] => 0
  | d :: r => uptoBulk d + uptoBulkAll r
def uptoBulkEntries {H : Type} : List (Lit × DataW H) → Nat
  | [] => 0
  | x :: r => uptoBulkEntry x + uptoBulkEntries r
def uptoBulkEntry {H : Type} : Lit × DataW H → Nat
  | (.string bytes, d) => bytes.length + uptoBulk d + 1
  | (_, d) => uptoBulk d + 1
 end
def uptoSmall : (H : Type) → List (DataW H) → Bool := fun _ ds => decide (uptoBulkAll ds ≤ 1048576)
def OpenSpec.upto (s : _root_.Go.ChangeSpec) : _root_.Go.OpenSpec := { _root_.Go.OpenSpec.ofChange s with cond := some uptoSmall }

/-- 'guidewaylaw01.LinePoses', WHERE WHAT IT READS IS OF BULK AT MOST 1048576: true; the input reads as it did. -/
def linePosesUptoRow : OpenClaim := { program := "ytonjcljnpcmenaa", sum := "3bdbb9e3190bd519267c33ab0cbd3a6505995235dac074a6418842c0c4256c19", func := "guideway/guidewaylaw01.LinePoses", spec := "linePoses", unfollowed := true, recurses := true, named := ["math/bits.divideError", "math/bits.overflowError"], apart := false, narrowed := true }
def LinePosesUptoSaid : Prop := linePosesUptoRow.holds Try.pinned (OpenSpec.upto linePosesSpec)

/-- 'guidewaylaw01.LineLimits', WHERE WHAT IT READS IS OF BULK AT MOST 1048576: true; the input reads as it did. -/
def lineLimitsUptoRow : OpenClaim := { program := "ytonjcljnpcmenaa", sum := "3bdbb9e3190bd519267c33ab0cbd3a6505995235dac074a6418842c0c4256c19", func := "guideway/guidewaylaw01.LineLimits", spec := "lineLimits", unfollowed := true, recurses := true, named := ["math/bits.divideError", "math/bits.overflowError"], apart := false, narrowed := true }
def LineLimitsUptoSaid : Prop := lineLimitsUptoRow.holds Try.pinned (OpenSpec.upto lineLimitsSpec)

/-- 'guidewaylaw01.LinePermitted', WHERE WHAT IT READS IS OF BULK AT MOST 1048576: true; the input reads as it did. -/
def linePermittedUptoRow : OpenClaim := { program := "ytonjcljnpcmenaa", sum := "3bdbb9e3190bd519267c33ab0cbd3a6505995235dac074a6418842c0c4256c19", func := "guideway/guidewaylaw01.LinePermitted", spec := "linePermitted", unfollowed := true, recurses := true, named := ["math/bits.divideError", "math/bits.overflowError"], apart := false, narrowed := true }
def LinePermittedUptoSaid : Prop := linePermittedUptoRow.holds Try.pinned (OpenSpec.upto linePermittedSpec)

/-- 'guidewaylaw01.LineSurveys', WHERE WHAT IT READS IS OF BULK AT MOST 1048576: true; the input reads as it did. -/
def lineSurveysUptoRow : OpenClaim := { program := "ytonjcljnpcmenaa", sum := "3bdbb9e3190bd519267c33ab0cbd3a6505995235dac074a6418842c0c4256c19", func := "guideway/guidewaylaw01.LineSurveys", spec := "lineSurveys", unfollowed := true, recurses := true, named := ["math/bits.divideError", "math/bits.overflowError"], apart := false, narrowed := true }
def LineSurveysUptoSaid : Prop := lineSurveysUptoRow.holds Try.pinned (OpenSpec.upto lineSurveysSpec)

/-- 'guidewaylaw01.LineBranches', WHERE WHAT IT READS IS OF BULK AT MOST 1048576: true; the input reads as it did. -/
def lineBranchesUptoRow : OpenClaim := { program := "ytonjcljnpcmenaa", sum := "3bdbb9e3190bd519267c33ab0cbd3a6505995235dac074a6418842c0c4256c19", func := "guideway/guidewaylaw01.LineBranches", spec := "lineBranches", unfollowed := true, recurses := true, named := ["math/bits.divideError", "math/bits.overflowError"], apart := false, narrowed := true }
def LineBranchesUptoSaid : Prop := lineBranchesUptoRow.holds Try.pinned (OpenSpec.upto lineBranchesSpec)

/-- 'guidewaylaw01.LineTurned', WHERE WHAT IT READS IS OF BULK AT MOST 1048576: true; the input reads as it did. -/
def lineTurnedUptoRow : OpenClaim := { program := "ytonjcljnpcmenaa", sum := "3bdbb9e3190bd519267c33ab0cbd3a6505995235dac074a6418842c0c4256c19", func := "guideway/guidewaylaw01.LineTurned", spec := "lineTurned", unfollowed := true, recurses := true, named := ["math/bits.divideError", "math/bits.overflowError"], apart := false, narrowed := true }
def LineTurnedUptoSaid : Prop := lineTurnedUptoRow.holds Try.pinned (OpenSpec.upto lineTurnedSpec)

/-- 'guidewaylaw01.LineStraight', WHERE WHAT IT READS IS OF BULK AT MOST 1048576: true; the input reads as it did. -/
def lineStraightUptoRow : OpenClaim := { program := "ytonjcljnpcmenaa", sum := "3bdbb9e3190bd519267c33ab0cbd3a6505995235dac074a6418842c0c4256c19", func := "guideway/guidewaylaw01.LineStraight", spec := "lineStraight", unfollowed := true, recurses := true, named := ["math/bits.divideError", "math/bits.overflowError"], apart := false, narrowed := true }
def LineStraightUptoSaid : Prop := lineStraightUptoRow.holds Try.pinned (OpenSpec.upto lineStraightSpec)

/-- 'guidewaytop.TopLineBranches', WHERE WHAT IT READS IS OF BULK AT MOST 1048576: true; the input reads as it did. -/
def topLineBranchesUptoRow : OpenClaim := { program := "ytonjcljnpcmenaa", sum := "3bdbb9e3190bd519267c33ab0cbd3a6505995235dac074a6418842c0c4256c19", func := "guideway/guidewaytop.TopLineBranches", spec := "topLineBranches", unfollowed := true, recurses := true, named := ["math/bits.divideError", "math/bits.overflowError"], apart := false, narrowed := true }
def TopLineBranchesUptoSaid : Prop := topLineBranchesUptoRow.holds Try.pinned (OpenSpec.upto topLineBranchesSpec)

/-- 'guidewaytop.TopBrakeLine', WHERE WHAT IT READS IS OF BULK AT MOST 1048576: true; the input reads as it did. -/
def topBrakeLineUptoRow : OpenClaim := { program := "ytonjcljnpcmenaa", sum := "3bdbb9e3190bd519267c33ab0cbd3a6505995235dac074a6418842c0c4256c19", func := "guideway/guidewaytop.TopBrakeLine", spec := "topBrakeLine", unfollowed := true, recurses := true, named := ["math/bits.divideError", "math/bits.overflowError"], apart := false, narrowed := true }
def TopBrakeLineUptoSaid : Prop := topBrakeLineUptoRow.holds Try.pinned (OpenSpec.upto topBrakeLineSpec)

end Rows
end Go.Proofs.Ytonjcljnpcmenaa
