/-
  No cell of these rows narrows 'for every input' (looked for: loops, veiled, ifaces, maps, wideKeys, modest, calm, conditions, laid).
  DERIVED. THE GIVEN ROWS OF THIS SEAT. 12 by the template 'for every input the law returns true; each argument reads behind the call as it read before'; 0 by the template 'total and deterministic' (their statements: YtelgkjekpcfffaaTotals.lean).
  GIVEN WITH THE SEED: the statements are not yours to turn. If you find one false, say at which input.
  Laid BY PROGRAM, IN A SANDBOX (cutbox-rows.mjs): the forced cells as the released guide's own fill.sh prints them over the translation 31d0ff1181cb3764… (all of the seat's roots in one cut). By AI agents, Wed Nov 11 2026. No macro, syntax, notation, axiom, sorry.
-/
import Derived.Test.YtelgkjekpcfffaaChecked
import GoSem.Claim
import GoSem.ClaimJoined
import GoSem.ClaimMapViews
import Derived.JoinedTies
import Derived.KernelRfl
namespace Go.Proofs.Ytelgkjekpcfffaa
/- THE CELL 'sum', in the pinned program and in every row, IS THE sha256 OF THE DUMP (.gsa) THAT YtelgkjekpcfffaaProg.lean LOADS. Nothing in Lean hashes anything: it is a label: what it is worth is what the hold of that sum in a sandbox is worth. -/
noncomputable def Try.pinned : Pinned := { name := "ytelgkjekpcfffaa", sum := "31d0ff1181cb376497130dc2d587ed156d90560f8d76891ad6ab15a880003f03", checked := Try.checked }
namespace Rows
def none {H : Type} : Left H := { results := [], args := [] }

/-- 'guidewaylaw05.BrakeFastest': WHATEVER THE INPUT: true; the input reads as it did. -/
def brakeFastestSpec : ChangeSpec := { name := "brakeFastest", fn := fun _ => fun
  | [d1, d2, d3] => { results := [.lit (.bool true)], args := [d1, d2, d3] }
  | _ => none }
def brakeFastestRow : OpenClaim := { program := "ytelgkjekpcfffaa", sum := "31d0ff1181cb376497130dc2d587ed156d90560f8d76891ad6ab15a880003f03", func := "guideway/guidewaylaw05.BrakeFastest", spec := "brakeFastest", unfollowed := true, recurses := true, apart := false }
def BrakeFastestSaid : Prop := brakeFastestRow.holds Try.pinned (OpenSpec.ofChange brakeFastestSpec)

/-- ITS FALSE NEIGHBOUR: 'it returns false'. Refute it at one input. -/
def brakeFastestWrong : ChangeSpec := { name := "brakeFastest", fn := fun _ => fun
  | [d1, d2, d3] => { results := [.lit (.bool false)], args := [d1, d2, d3] }
  | _ => none }
def BrakeFastestWrongFalsely : Prop := brakeFastestRow.holds Try.pinned (OpenSpec.ofChange brakeFastestWrong)

/-- 'guidewaylaw05.BrakeReaches': WHATEVER THE INPUT: true; the input reads as it did. -/
def brakeReachesSpec : ChangeSpec := { name := "brakeReaches", fn := fun _ => fun
  | [d1, d2, d3] => { results := [.lit (.bool true)], args := [d1, d2, d3] }
  | _ => none }
def brakeReachesRow : OpenClaim := { program := "ytelgkjekpcfffaa", sum := "31d0ff1181cb376497130dc2d587ed156d90560f8d76891ad6ab15a880003f03", func := "guideway/guidewaylaw05.BrakeReaches", spec := "brakeReaches", unfollowed := true, recurses := true, apart := false }
def BrakeReachesSaid : Prop := brakeReachesRow.holds Try.pinned (OpenSpec.ofChange brakeReachesSpec)

/-- ITS FALSE NEIGHBOUR: 'it returns false'. Refute it at one input. -/
def brakeReachesWrong : ChangeSpec := { name := "brakeReaches", fn := fun _ => fun
  | [d1, d2, d3] => { results := [.lit (.bool false)], args := [d1, d2, d3] }
  | _ => none }
def BrakeReachesWrongFalsely : Prop := brakeReachesRow.holds Try.pinned (OpenSpec.ofChange brakeReachesWrong)

/-- 'guidewaylaw05.BrakeCurves': WHATEVER THE INPUT: true; the input reads as it did. -/
def brakeCurvesSpec : ChangeSpec := { name := "brakeCurves", fn := fun _ => fun
  | [d1, d2, d3] => { results := [.lit (.bool true)], args := [d1, d2, d3] }
  | _ => none }
def brakeCurvesRow : OpenClaim := { program := "ytelgkjekpcfffaa", sum := "31d0ff1181cb376497130dc2d587ed156d90560f8d76891ad6ab15a880003f03", func := "guideway/guidewaylaw05.BrakeCurves", spec := "brakeCurves", unfollowed := true, recurses := true, apart := false }
def BrakeCurvesSaid : Prop := brakeCurvesRow.holds Try.pinned (OpenSpec.ofChange brakeCurvesSpec)

/-- ITS FALSE NEIGHBOUR: 'it returns false'. Refute it at one input. -/
def brakeCurvesWrong : ChangeSpec := { name := "brakeCurves", fn := fun _ => fun
  | [d1, d2, d3] => { results := [.lit (.bool false)], args := [d1, d2, d3] }
  | _ => none }
def BrakeCurvesWrongFalsely : Prop := brakeCurvesRow.holds Try.pinned (OpenSpec.ofChange brakeCurvesWrong)

/-- 'guidewaylaw05.BrakeTracks': WHATEVER THE INPUT: true; the input reads as it did. -/
def brakeTracksSpec : ChangeSpec := { name := "brakeTracks", fn := fun _ => fun
  | [d1, d2] => { results := [.lit (.bool true)], args := [d1, d2] }
  | _ => none }
def brakeTracksRow : OpenClaim := { program := "ytelgkjekpcfffaa", sum := "31d0ff1181cb376497130dc2d587ed156d90560f8d76891ad6ab15a880003f03", func := "guideway/guidewaylaw05.BrakeTracks", spec := "brakeTracks", unfollowed := true, recurses := true, apart := false }
def BrakeTracksSaid : Prop := brakeTracksRow.holds Try.pinned (OpenSpec.ofChange brakeTracksSpec)

/-- ITS FALSE NEIGHBOUR: 'it returns false'. Refute it at one input. -/
def brakeTracksWrong : ChangeSpec := { name := "brakeTracks", fn := fun _ => fun
  | [d1, d2] => { results := [.lit (.bool false)], args := [d1, d2] }
  | _ => none }
def BrakeTracksWrongFalsely : Prop := brakeTracksRow.holds Try.pinned (OpenSpec.ofChange brakeTracksWrong)

/-- 'guidewaylaw05.BrakeTwoWays': WHATEVER THE INPUT: true; the input reads as it did. -/
def brakeTwoWaysSpec : ChangeSpec := { name := "brakeTwoWays", fn := fun _ => fun
  | [d1, d2, d3] => { results := [.lit (.bool true)], args := [d1, d2, d3] }
  | _ => none }
def brakeTwoWaysRow : OpenClaim := { program := "ytelgkjekpcfffaa", sum := "31d0ff1181cb376497130dc2d587ed156d90560f8d76891ad6ab15a880003f03", func := "guideway/guidewaylaw05.BrakeTwoWays", spec := "brakeTwoWays", unfollowed := true, recurses := true, apart := false }
def BrakeTwoWaysSaid : Prop := brakeTwoWaysRow.holds Try.pinned (OpenSpec.ofChange brakeTwoWaysSpec)

/-- ITS FALSE NEIGHBOUR: 'it returns false'. Refute it at one input. -/
def brakeTwoWaysWrong : ChangeSpec := { name := "brakeTwoWays", fn := fun _ => fun
  | [d1, d2, d3] => { results := [.lit (.bool false)], args := [d1, d2, d3] }
  | _ => none }
def BrakeTwoWaysWrongFalsely : Prop := brakeTwoWaysRow.holds Try.pinned (OpenSpec.ofChange brakeTwoWaysWrong)

/-- 'guidewaylaw05.BrakeBetter': WHATEVER THE INPUT: true; the input reads as it did. -/
def brakeBetterSpec : ChangeSpec := { name := "brakeBetter", fn := fun _ => fun
  | [d1, d2, d3] => { results := [.lit (.bool true)], args := [d1, d2, d3] }
  | _ => none }
def brakeBetterRow : OpenClaim := { program := "ytelgkjekpcfffaa", sum := "31d0ff1181cb376497130dc2d587ed156d90560f8d76891ad6ab15a880003f03", func := "guideway/guidewaylaw05.BrakeBetter", spec := "brakeBetter", unfollowed := true, recurses := true, apart := false }
def BrakeBetterSaid : Prop := brakeBetterRow.holds Try.pinned (OpenSpec.ofChange brakeBetterSpec)

/-- ITS FALSE NEIGHBOUR: 'it returns false'. Refute it at one input. -/
def brakeBetterWrong : ChangeSpec := { name := "brakeBetter", fn := fun _ => fun
  | [d1, d2, d3] => { results := [.lit (.bool false)], args := [d1, d2, d3] }
  | _ => none }
def BrakeBetterWrongFalsely : Prop := brakeBetterRow.holds Try.pinned (OpenSpec.ofChange brakeBetterWrong)

/-- 'guidewaylaw05.BrakeWhereLeft': WHATEVER THE INPUT: true; the input reads as it did. -/
def brakeWhereLeftSpec : ChangeSpec := { name := "brakeWhereLeft", fn := fun _ => fun
  | [d1, d2, d3] => { results := [.lit (.bool true)], args := [d1, d2, d3] }
  | _ => none }
def brakeWhereLeftRow : OpenClaim := { program := "ytelgkjekpcfffaa", sum := "31d0ff1181cb376497130dc2d587ed156d90560f8d76891ad6ab15a880003f03", func := "guideway/guidewaylaw05.BrakeWhereLeft", spec := "brakeWhereLeft", unfollowed := true, recurses := true, apart := false }
def BrakeWhereLeftSaid : Prop := brakeWhereLeftRow.holds Try.pinned (OpenSpec.ofChange brakeWhereLeftSpec)

/-- ITS FALSE NEIGHBOUR: 'it returns false'. Refute it at one input. -/
def brakeWhereLeftWrong : ChangeSpec := { name := "brakeWhereLeft", fn := fun _ => fun
  | [d1, d2, d3] => { results := [.lit (.bool false)], args := [d1, d2, d3] }
  | _ => none }
def BrakeWhereLeftWrongFalsely : Prop := brakeWhereLeftRow.holds Try.pinned (OpenSpec.ofChange brakeWhereLeftWrong)

/-- 'guidewaylaw05.BrakeStands': WHATEVER THE INPUT: true; the input reads as it did. -/
def brakeStandsSpec : ChangeSpec := { name := "brakeStands", fn := fun _ => fun
  | [d1, d2, d3] => { results := [.lit (.bool true)], args := [d1, d2, d3] }
  | _ => none }
def brakeStandsRow : OpenClaim := { program := "ytelgkjekpcfffaa", sum := "31d0ff1181cb376497130dc2d587ed156d90560f8d76891ad6ab15a880003f03", func := "guideway/guidewaylaw05.BrakeStands", spec := "brakeStands", unfollowed := true, recurses := true, apart := false }
def BrakeStandsSaid : Prop := brakeStandsRow.holds Try.pinned (OpenSpec.ofChange brakeStandsSpec)

/-- ITS FALSE NEIGHBOUR: 'it returns false'. Refute it at one input. -/
def brakeStandsWrong : ChangeSpec := { name := "brakeStands", fn := fun _ => fun
  | [d1, d2, d3] => { results := [.lit (.bool false)], args := [d1, d2, d3] }
  | _ => none }
def BrakeStandsWrongFalsely : Prop := brakeStandsRow.holds Try.pinned (OpenSpec.ofChange brakeStandsWrong)

/-- 'guidewaylaw05.BrakeStops': WHATEVER THE INPUT: true; the input reads as it did. -/
def brakeStopsSpec : ChangeSpec := { name := "brakeStops", fn := fun _ => fun
  | [d1, d2, d3] => { results := [.lit (.bool true)], args := [d1, d2, d3] }
  | _ => none }
def brakeStopsRow : OpenClaim := { program := "ytelgkjekpcfffaa", sum := "31d0ff1181cb376497130dc2d587ed156d90560f8d76891ad6ab15a880003f03", func := "guideway/guidewaylaw05.BrakeStops", spec := "brakeStops", unfollowed := true, recurses := true, apart := false }
def BrakeStopsSaid : Prop := brakeStopsRow.holds Try.pinned (OpenSpec.ofChange brakeStopsSpec)

/-- ITS FALSE NEIGHBOUR: 'it returns false'. Refute it at one input. -/
def brakeStopsWrong : ChangeSpec := { name := "brakeStops", fn := fun _ => fun
  | [d1, d2, d3] => { results := [.lit (.bool false)], args := [d1, d2, d3] }
  | _ => none }
def BrakeStopsWrongFalsely : Prop := brakeStopsRow.holds Try.pinned (OpenSpec.ofChange brakeStopsWrong)

/-- 'guidewaylaw05.BrakeUnsafe': WHATEVER THE INPUT: true; the input reads as it did. -/
def brakeUnsafeSpec : ChangeSpec := { name := "brakeUnsafe", fn := fun _ => fun
  | [d1, d2, d3] => { results := [.lit (.bool true)], args := [d1, d2, d3] }
  | _ => none }
def brakeUnsafeRow : OpenClaim := { program := "ytelgkjekpcfffaa", sum := "31d0ff1181cb376497130dc2d587ed156d90560f8d76891ad6ab15a880003f03", func := "guideway/guidewaylaw05.BrakeUnsafe", spec := "brakeUnsafe", unfollowed := true, recurses := true, apart := false }
def BrakeUnsafeSaid : Prop := brakeUnsafeRow.holds Try.pinned (OpenSpec.ofChange brakeUnsafeSpec)

/-- ITS FALSE NEIGHBOUR: 'it returns false'. Refute it at one input. -/
def brakeUnsafeWrong : ChangeSpec := { name := "brakeUnsafe", fn := fun _ => fun
  | [d1, d2, d3] => { results := [.lit (.bool false)], args := [d1, d2, d3] }
  | _ => none }
def BrakeUnsafeWrongFalsely : Prop := brakeUnsafeRow.holds Try.pinned (OpenSpec.ofChange brakeUnsafeWrong)

/-- 'guidewaylaw05.BrakeOthers': WHATEVER THE INPUT: true; the input reads as it did. -/
def brakeOthersSpec : ChangeSpec := { name := "brakeOthers", fn := fun _ => fun
  | [d1, d2] => { results := [.lit (.bool true)], args := [d1, d2] }
  | _ => none }
def brakeOthersRow : OpenClaim := { program := "ytelgkjekpcfffaa", sum := "31d0ff1181cb376497130dc2d587ed156d90560f8d76891ad6ab15a880003f03", func := "guideway/guidewaylaw05.BrakeOthers", spec := "brakeOthers", unfollowed := true, recurses := true, apart := false }
def BrakeOthersSaid : Prop := brakeOthersRow.holds Try.pinned (OpenSpec.ofChange brakeOthersSpec)

/-- ITS FALSE NEIGHBOUR: 'it returns false'. Refute it at one input. -/
def brakeOthersWrong : ChangeSpec := { name := "brakeOthers", fn := fun _ => fun
  | [d1, d2] => { results := [.lit (.bool false)], args := [d1, d2] }
  | _ => none }
def BrakeOthersWrongFalsely : Prop := brakeOthersRow.holds Try.pinned (OpenSpec.ofChange brakeOthersWrong)

/-- 'guidewaylaw05.BrakeSquares': WHATEVER THE INPUT: true; the input reads as it did. -/
def brakeSquaresSpec : ChangeSpec := { name := "brakeSquares", fn := fun _ => fun
  | [d1, d2, d3] => { results := [.lit (.bool true)], args := [d1, d2, d3] }
  | _ => none }
def brakeSquaresRow : OpenClaim := { program := "ytelgkjekpcfffaa", sum := "31d0ff1181cb376497130dc2d587ed156d90560f8d76891ad6ab15a880003f03", func := "guideway/guidewaylaw05.BrakeSquares", spec := "brakeSquares", unfollowed := true, recurses := true, apart := false }
def BrakeSquaresSaid : Prop := brakeSquaresRow.holds Try.pinned (OpenSpec.ofChange brakeSquaresSpec)

/-- ITS FALSE NEIGHBOUR: 'it returns false'. Refute it at one input. -/
def brakeSquaresWrong : ChangeSpec := { name := "brakeSquares", fn := fun _ => fun
  | [d1, d2, d3] => { results := [.lit (.bool false)], args := [d1, d2, d3] }
  | _ => none }
def BrakeSquaresWrongFalsely : Prop := brakeSquaresRow.holds Try.pinned (OpenSpec.ofChange brakeSquaresWrong)

/- THE SECOND FORM. 'bulk': how many values and letters a reading holds, each counted each time it is reached (what is shared counts as often as it is met; a slice's spare places count too). A statement '..UptoSaid' is the law's where the arguments, and the package variables that the reading takes, are together of bulk at most 1048576: NARROWER than '..Said'. Prove '..Said' where nothing that the law and all that it calls make is longer than what came in: it says more and counts as full. Else prove '..UptoSaid'. A law counts once. -/
mutual
def uptoBulk {H : Type} : DataW H → Nat
  | .lit (.string bytes) => bytes.length + 1
  | .lit _ => 1
  | .nil => 1
  | .ptr d => uptoBulk d + 1
  | .slice elems spare => uptoBulkAll elems + uptoBulkAll spare + 1
  | .agg parts => uptoBulkAll parts + 1
  | .iface _ d => uptoBulk d + 1
  | .map entries => uptoBulkEntries entries + 1
  | .held _ => 1
def uptoBulkAll {H : Type} : List (DataW H) → Nat
  | [] => 0
  | d :: r => uptoBulk d + uptoBulkAll r
def uptoBulkEntries {H : Type} : List (Lit × DataW H) → Nat
  | [] => 0
  | x :: r => uptoBulkEntry x + uptoBulkEntries r
def uptoBulkEntry {H : Type} : Lit × DataW H → Nat
  | (.string bytes, d) => bytes.length + uptoBulk d + 1
  | (_, d) => uptoBulk d + 1
 end
def uptoSmall : (H : Type) → List (DataW H) → Bool := fun _ ds => decide (uptoBulkAll ds ≤ 1048576)
def OpenSpec.upto (s : _root_.Go.ChangeSpec) : _root_.Go.OpenSpec := { _root_.Go.OpenSpec.ofChange s with cond := some uptoSmall }

/-- 'guidewaylaw05.BrakeFastest', WHERE WHAT IT READS IS OF BULK AT MOST 1048576: true; the input reads as it did. -/
def brakeFastestUptoRow : OpenClaim := { program := "ytelgkjekpcfffaa", sum := "31d0ff1181cb376497130dc2d587ed156d90560f8d76891ad6ab15a880003f03", func := "guideway/guidewaylaw05.BrakeFastest", spec := "brakeFastest", unfollowed := true, recurses := true, apart := false, narrowed := true }
def BrakeFastestUptoSaid : Prop := brakeFastestUptoRow.holds Try.pinned (OpenSpec.upto brakeFastestSpec)

/-- 'guidewaylaw05.BrakeReaches', WHERE WHAT IT READS IS OF BULK AT MOST 1048576: true; the input reads as it did. -/
def brakeReachesUptoRow : OpenClaim := { program := "ytelgkjekpcfffaa", sum := "31d0ff1181cb376497130dc2d587ed156d90560f8d76891ad6ab15a880003f03", func := "guideway/guidewaylaw05.BrakeReaches", spec := "brakeReaches", unfollowed := true, recurses := true, apart := false, narrowed := true }
def BrakeReachesUptoSaid : Prop := brakeReachesUptoRow.holds Try.pinned (OpenSpec.upto brakeReachesSpec)

/-- 'guidewaylaw05.BrakeCurves', WHERE WHAT IT READS IS OF BULK AT MOST 1048576: true; the input reads as it did. -/
def brakeCurvesUptoRow : OpenClaim := { program := "ytelgkjekpcfffaa", sum := "31d0ff1181cb376497130dc2d587ed156d90560f8d76891ad6ab15a880003f03", func := "guideway/guidewaylaw05.BrakeCurves", spec := "brakeCurves", unfollowed := true, recurses := true, apart := false, narrowed := true }
def BrakeCurvesUptoSaid : Prop := brakeCurvesUptoRow.holds Try.pinned (OpenSpec.upto brakeCurvesSpec)

/-- 'guidewaylaw05.BrakeTracks', WHERE WHAT IT READS IS OF BULK AT MOST 1048576: true; the input reads as it did. -/
def brakeTracksUptoRow : OpenClaim := { program := "ytelgkjekpcfffaa", sum := "31d0ff1181cb376497130dc2d587ed156d90560f8d76891ad6ab15a880003f03", func := "guideway/guidewaylaw05.BrakeTracks", spec := "brakeTracks", unfollowed := true, recurses := true, apart := false, narrowed := true }
def BrakeTracksUptoSaid : Prop := brakeTracksUptoRow.holds Try.pinned (OpenSpec.upto brakeTracksSpec)

/-- 'guidewaylaw05.BrakeTwoWays', WHERE WHAT IT READS IS OF BULK AT MOST 1048576: true; the input reads as it did. -/
def brakeTwoWaysUptoRow : OpenClaim := { program := "ytelgkjekpcfffaa", sum := "31d0ff1181cb376497130dc2d587ed156d90560f8d76891ad6ab15a880003f03", func := "guideway/guidewaylaw05.BrakeTwoWays", spec := "brakeTwoWays", unfollowed := true, recurses := true, apart := false, narrowed := true }
def BrakeTwoWaysUptoSaid : Prop := brakeTwoWaysUptoRow.holds Try.pinned (OpenSpec.upto brakeTwoWaysSpec)

/-- 'guidewaylaw05.BrakeBetter', WHERE WHAT IT READS IS OF BULK AT MOST 1048576: true; the input reads as it did. -/
def brakeBetterUptoRow : OpenClaim := { program := "ytelgkjekpcfffaa", sum := "31d0ff1181cb376497130dc2d587ed156d90560f8d76891ad6ab15a880003f03", func := "guideway/guidewaylaw05.BrakeBetter", spec := "brakeBetter", unfollowed := true, recurses := true, apart := false, narrowed := true }
def BrakeBetterUptoSaid : Prop := brakeBetterUptoRow.holds Try.pinned (OpenSpec.upto brakeBetterSpec)

/-- 'guidewaylaw05.BrakeWhereLeft', WHERE WHAT IT READS IS OF BULK AT MOST 1048576: true; the input reads as it did. -/
def brakeWhereLeftUptoRow : OpenClaim := { program := "ytelgkjekpcfffaa", sum := "31d0ff1181cb376497130dc2d587ed156d90560f8d76891ad6ab15a880003f03", func := "guideway/guidewaylaw05.BrakeWhereLeft", spec := "brakeWhereLeft", unfollowed := true, recurses := true, apart := false, narrowed := true }
def BrakeWhereLeftUptoSaid : Prop := brakeWhereLeftUptoRow.holds Try.pinned (OpenSpec.upto brakeWhereLeftSpec)

/-- 'guidewaylaw05.BrakeStands', WHERE WHAT IT READS IS OF BULK AT MOST 1048576: true; the input reads as it did. -/
def brakeStandsUptoRow : OpenClaim := { program := "ytelgkjekpcfffaa", sum := "31d0ff1181cb376497130dc2d587ed156d90560f8d76891ad6ab15a880003f03", func := "guideway/guidewaylaw05.BrakeStands", spec := "brakeStands", unfollowed := true, recurses := true, apart := false, narrowed := true }
def BrakeStandsUptoSaid : Prop := brakeStandsUptoRow.holds Try.pinned (OpenSpec.upto brakeStandsSpec)

/-- 'guidewaylaw05.BrakeStops', WHERE WHAT IT READS IS OF BULK AT MOST 1048576: true; the input reads as it did. -/
def brakeStopsUptoRow : OpenClaim := { program := "ytelgkjekpcfffaa", sum := "31d0ff1181cb376497130dc2d587ed156d90560f8d76891ad6ab15a880003f03", func := "guideway/guidewaylaw05.BrakeStops", spec := "brakeStops", unfollowed := true, recurses := true, apart := false, narrowed := true }
def BrakeStopsUptoSaid : Prop := brakeStopsUptoRow.holds Try.pinned (OpenSpec.upto brakeStopsSpec)

/-- 'guidewaylaw05.BrakeUnsafe', WHERE WHAT IT READS IS OF BULK AT MOST 1048576: true; the input reads as it did. -/
def brakeUnsafeUptoRow : OpenClaim := { program := "ytelgkjekpcfffaa", sum := "31d0ff1181cb376497130dc2d587ed156d90560f8d76891ad6ab15a880003f03", func := "guideway/guidewaylaw05.BrakeUnsafe", spec := "brakeUnsafe", unfollowed := true, recurses := true, apart := false, narrowed := true }
def BrakeUnsafeUptoSaid : Prop := brakeUnsafeUptoRow.holds Try.pinned (OpenSpec.upto brakeUnsafeSpec)

/-- 'guidewaylaw05.BrakeOthers', WHERE WHAT IT READS IS OF BULK AT MOST 1048576: true; the input reads as it did. -/
def brakeOthersUptoRow : OpenClaim := { program := "ytelgkjekpcfffaa", sum := "31d0ff1181cb376497130dc2d587ed156d90560f8d76891ad6ab15a880003f03", func := "guideway/guidewaylaw05.BrakeOthers", spec := "brakeOthers", unfollowed := true, recurses := true, apart := false, narrowed := true }
def BrakeOthersUptoSaid : Prop := brakeOthersUptoRow.holds Try.pinned (OpenSpec.upto brakeOthersSpec)

/-- 'guidewaylaw05.BrakeSquares', WHERE WHAT IT READS IS OF BULK AT MOST 1048576: true; the input reads as it did. -/
def brakeSquaresUptoRow : OpenClaim := { program := "ytelgkjekpcfffaa", sum := "31d0ff1181cb376497130dc2d587ed156d90560f8d76891ad6ab15a880003f03", func := "guideway/guidewaylaw05.BrakeSquares", spec := "brakeSquares", unfollowed := true, recurses := true, apart := false, narrowed := true }
def BrakeSquaresUptoSaid : Prop := brakeSquaresUptoRow.holds Try.pinned (OpenSpec.upto brakeSquaresSpec)

end Rows
end Go.Proofs.Ytelgkjekpcfffaa
