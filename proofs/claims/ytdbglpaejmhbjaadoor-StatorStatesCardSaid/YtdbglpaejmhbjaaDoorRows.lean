/-
  NARROWER THAN 'FOR EVERY INPUT', by the rows' own cells (each row's printed sentence says how): StatorEven: laid · StatorTurns: laid · StatorTracks: laid · StatorRest: laid · StatorOnTrack: laid · StatorChanges: laid · StatorForces: laid · StatorBoth: laid · StatorStates: laid · StatorNoStep: laid · StatorBooks: laid · StatorVectors: laid.
  DERIVED. THE GIVEN ROWS OF THIS SEAT. 12 by the template 'for every input the law returns true; each argument reads behind the call as it read before'; 0 by the template 'total and deterministic' (their statements: YtdbglpaejmhbjaaDoorTotals.lean).
  GIVEN WITH THE SEED: the statements are not yours to turn. If you find one false, say at which input.
  Laid BY PROGRAM, IN A SANDBOX (cutbox-rows.mjs): the forced cells as the released guide's own fill.sh prints them over the translation b44e6019ff051194… (all of the seat's roots in one cut). By AI agents, Wed Nov 11 2026. No macro, syntax, notation, axiom, sorry.
-/
import Derived.Test.YtdbglpaejmhbjaaDoorChecked
import GoSem.Claim
import GoSem.ClaimJoined
import GoSem.ClaimMapViews
import Derived.JoinedTies
import Derived.KernelRfl
namespace Go.Proofs.YtdbglpaejmhbjaaDoor
/- THE CELL 'sum', in the pinned program and in every row, IS THE sha256 OF THE DUMP (.gsa) THAT YtdbglpaejmhbjaaDoorProg.lean LOADS. Nothing in Lean hashes anything: it is a label: what it is worth is what the hold of that sum in a sandbox is worth. -/
noncomputable def Tryd.pinned : Pinned := { name := "ytdbglpaejmhbjaadoor", sum := "b44e6019ff0511942da5677d20523877c6581f9eb64be35d84adc93bd86c3edc", checked := Tryd.checked }
namespace Rows
def none {H : Type} : Left H := { results := [], args := [] }

/- WHAT THE LISTED PACKAGE-LEVEL VARIABLES READ AS WHEN THE CALL BEGINS. Each datum BY PROGRAM (the guide's laid-datum.mjs) off the statement by which the dump's own 'gosem.cut.vars' lays the variable. In a bare row this is a premise. The card (YtdbglpaejmhbjaaDoorCards.lean) ties it to the program's text. -/
def laid_guideway_stator_states {H : Type} : DataW H := .agg [.agg [.lit (.int .i64 0), .lit (.int .i64 0)], .agg [.lit (.int .i64 (-1)), .lit (.int .i64 (-1))], .agg [.lit (.int .i64 0), .lit (.int .i64 1)], .agg [.lit (.int .i64 (-1)), .lit (.int .i64 0)], .agg [.lit (.int .i64 1), .lit (.int .i64 0)], .agg [.lit (.int .i64 0), .lit (.int .i64 (-1))], .agg [.lit (.int .i64 1), .lit (.int .i64 1)], .agg [.lit (.int .i64 0), .lit (.int .i64 0)]]

/-- 'guidewaylaw03.StatorEven': WHATEVER THE INPUT: true; the input reads as it did. -/
def statorEvenSpec : ChangeSpec := { name := "statorEven", fn := fun _ => fun
  | [d1, d2] => { results := [.lit (.bool true)], args := [d1, d2] }
  | _ => none }
def statorEvenRow : OpenClaim := { program := "ytdbglpaejmhbjaadoor", sum := "b44e6019ff0511942da5677d20523877c6581f9eb64be35d84adc93bd86c3edc", func := "guideway/guidewaylaw03.StatorEven", spec := "statorEven", unfollowed := true, recurses := true, named := ["guideway/stator.states"], apart := false, laid := [("guideway/stator.states", laid_guideway_stator_states)] }
def StatorEvenSaid : Prop := statorEvenRow.holds Tryd.pinned (OpenSpec.ofChange statorEvenSpec)

/-- ITS FALSE NEIGHBOUR: 'it returns false'. Refute it at one input. -/
def statorEvenWrong : ChangeSpec := { name := "statorEven", fn := fun _ => fun
  | [d1, d2] => { results := [.lit (.bool false)], args := [d1, d2] }
  | _ => none }
def StatorEvenWrongFalsely : Prop := statorEvenRow.holds Tryd.pinned (OpenSpec.ofChange statorEvenWrong)

/-- 'guidewaylaw03.StatorTurns': WHATEVER THE INPUT: true; the input reads as it did. -/
def statorTurnsSpec : ChangeSpec := { name := "statorTurns", fn := fun _ => fun
  | [d1, d2] => { results := [.lit (.bool true)], args := [d1, d2] }
  | _ => none }
def statorTurnsRow : OpenClaim := { program := "ytdbglpaejmhbjaadoor", sum := "b44e6019ff0511942da5677d20523877c6581f9eb64be35d84adc93bd86c3edc", func := "guideway/guidewaylaw03.StatorTurns", spec := "statorTurns", unfollowed := true, recurses := true, named := ["guideway/stator.states"], apart := false, laid := [("guideway/stator.states", laid_guideway_stator_states)] }
def StatorTurnsSaid : Prop := statorTurnsRow.holds Tryd.pinned (OpenSpec.ofChange statorTurnsSpec)

/-- ITS FALSE NEIGHBOUR: 'it returns false'. Refute it at one input. -/
def statorTurnsWrong : ChangeSpec := { name := "statorTurns", fn := fun _ => fun
  | [d1, d2] => { results := [.lit (.bool false)], args := [d1, d2] }
  | _ => none }
def StatorTurnsWrongFalsely : Prop := statorTurnsRow.holds Tryd.pinned (OpenSpec.ofChange statorTurnsWrong)

/-- 'guidewaylaw03.StatorTracks': WHATEVER THE INPUT: true; the input reads as it did. -/
def statorTracksSpec : ChangeSpec := { name := "statorTracks", fn := fun _ => fun
  | [d1, d2] => { results := [.lit (.bool true)], args := [d1, d2] }
  | _ => none }
def statorTracksRow : OpenClaim := { program := "ytdbglpaejmhbjaadoor", sum := "b44e6019ff0511942da5677d20523877c6581f9eb64be35d84adc93bd86c3edc", func := "guideway/guidewaylaw03.StatorTracks", spec := "statorTracks", unfollowed := true, recurses := true, named := ["guideway/stator.states"], apart := false, laid := [("guideway/stator.states", laid_guideway_stator_states)] }
def StatorTracksSaid : Prop := statorTracksRow.holds Tryd.pinned (OpenSpec.ofChange statorTracksSpec)

/-- ITS FALSE NEIGHBOUR: 'it returns false'. Refute it at one input. -/
def statorTracksWrong : ChangeSpec := { name := "statorTracks", fn := fun _ => fun
  | [d1, d2] => { results := [.lit (.bool false)], args := [d1, d2] }
  | _ => none }
def StatorTracksWrongFalsely : Prop := statorTracksRow.holds Tryd.pinned (OpenSpec.ofChange statorTracksWrong)

/-- 'guidewaylaw03.StatorRest': WHATEVER THE INPUT: true; the input reads as it did. -/
def statorRestSpec : ChangeSpec := { name := "statorRest", fn := fun _ => fun
  | [d1, d2] => { results := [.lit (.bool true)], args := [d1, d2] }
  | _ => none }
def statorRestRow : OpenClaim := { program := "ytdbglpaejmhbjaadoor", sum := "b44e6019ff0511942da5677d20523877c6581f9eb64be35d84adc93bd86c3edc", func := "guideway/guidewaylaw03.StatorRest", spec := "statorRest", unfollowed := true, recurses := true, named := ["guideway/stator.states"], apart := false, laid := [("guideway/stator.states", laid_guideway_stator_states)] }
def StatorRestSaid : Prop := statorRestRow.holds Tryd.pinned (OpenSpec.ofChange statorRestSpec)

/-- ITS FALSE NEIGHBOUR: 'it returns false'. Refute it at one input. -/
def statorRestWrong : ChangeSpec := { name := "statorRest", fn := fun _ => fun
  | [d1, d2] => { results := [.lit (.bool false)], args := [d1, d2] }
  | _ => none }
def StatorRestWrongFalsely : Prop := statorRestRow.holds Tryd.pinned (OpenSpec.ofChange statorRestWrong)

/-- 'guidewaylaw03.StatorOnTrack': WHATEVER THE INPUT: true; the input reads as it did. -/
def statorOnTrackSpec : ChangeSpec := { name := "statorOnTrack", fn := fun _ => fun
  | [d1, d2, d3] => { results := [.lit (.bool true)], args := [d1, d2, d3] }
  | _ => none }
def statorOnTrackRow : OpenClaim := { program := "ytdbglpaejmhbjaadoor", sum := "b44e6019ff0511942da5677d20523877c6581f9eb64be35d84adc93bd86c3edc", func := "guideway/guidewaylaw03.StatorOnTrack", spec := "statorOnTrack", unfollowed := true, recurses := true, named := ["guideway/stator.states"], apart := false, laid := [("guideway/stator.states", laid_guideway_stator_states)] }
def StatorOnTrackSaid : Prop := statorOnTrackRow.holds Tryd.pinned (OpenSpec.ofChange statorOnTrackSpec)

/-- ITS FALSE NEIGHBOUR: 'it returns false'. Refute it at one input. -/
def statorOnTrackWrong : ChangeSpec := { name := "statorOnTrack", fn := fun _ => fun
  | [d1, d2, d3] => { results := [.lit (.bool false)], args := [d1, d2, d3] }
  | _ => none }
def StatorOnTrackWrongFalsely : Prop := statorOnTrackRow.holds Tryd.pinned (OpenSpec.ofChange statorOnTrackWrong)

/-- 'guidewaylaw03.StatorChanges': WHATEVER THE INPUT: true; the input reads as it did. -/
def statorChangesSpec : ChangeSpec := { name := "statorChanges", fn := fun _ => fun
  | [d1, d2, d3] => { results := [.lit (.bool true)], args := [d1, d2, d3] }
  | _ => none }
def statorChangesRow : OpenClaim := { program := "ytdbglpaejmhbjaadoor", sum := "b44e6019ff0511942da5677d20523877c6581f9eb64be35d84adc93bd86c3edc", func := "guideway/guidewaylaw03.StatorChanges", spec := "statorChanges", unfollowed := true, recurses := true, named := ["guideway/stator.states"], apart := false, laid := [("guideway/stator.states", laid_guideway_stator_states)] }
def StatorChangesSaid : Prop := statorChangesRow.holds Tryd.pinned (OpenSpec.ofChange statorChangesSpec)

/-- ITS FALSE NEIGHBOUR: 'it returns false'. Refute it at one input. -/
def statorChangesWrong : ChangeSpec := { name := "statorChanges", fn := fun _ => fun
  | [d1, d2, d3] => { results := [.lit (.bool false)], args := [d1, d2, d3] }
  | _ => none }
def StatorChangesWrongFalsely : Prop := statorChangesRow.holds Tryd.pinned (OpenSpec.ofChange statorChangesWrong)

/-- 'guidewaylaw03.StatorForces': WHATEVER THE INPUT: true; the input reads as it did. -/
def statorForcesSpec : ChangeSpec := { name := "statorForces", fn := fun _ => fun
  | [d1, d2] => { results := [.lit (.bool true)], args := [d1, d2] }
  | _ => none }
def statorForcesRow : OpenClaim := { program := "ytdbglpaejmhbjaadoor", sum := "b44e6019ff0511942da5677d20523877c6581f9eb64be35d84adc93bd86c3edc", func := "guideway/guidewaylaw03.StatorForces", spec := "statorForces", unfollowed := true, recurses := true, named := ["guideway/stator.states"], apart := false, laid := [("guideway/stator.states", laid_guideway_stator_states)] }
def StatorForcesSaid : Prop := statorForcesRow.holds Tryd.pinned (OpenSpec.ofChange statorForcesSpec)

/-- ITS FALSE NEIGHBOUR: 'it returns false'. Refute it at one input. -/
def statorForcesWrong : ChangeSpec := { name := "statorForces", fn := fun _ => fun
  | [d1, d2] => { results := [.lit (.bool false)], args := [d1, d2] }
  | _ => none }
def StatorForcesWrongFalsely : Prop := statorForcesRow.holds Tryd.pinned (OpenSpec.ofChange statorForcesWrong)

/-- 'guidewaylaw03.StatorBoth': WHATEVER THE INPUT: true; the input reads as it did. -/
def statorBothSpec : ChangeSpec := { name := "statorBoth", fn := fun _ => fun
  | [d1, d2, d3] => { results := [.lit (.bool true)], args := [d1, d2, d3] }
  | _ => none }
def statorBothRow : OpenClaim := { program := "ytdbglpaejmhbjaadoor", sum := "b44e6019ff0511942da5677d20523877c6581f9eb64be35d84adc93bd86c3edc", func := "guideway/guidewaylaw03.StatorBoth", spec := "statorBoth", unfollowed := true, recurses := true, named := ["guideway/stator.states"], apart := false, laid := [("guideway/stator.states", laid_guideway_stator_states)] }
def StatorBothSaid : Prop := statorBothRow.holds Tryd.pinned (OpenSpec.ofChange statorBothSpec)

/-- ITS FALSE NEIGHBOUR: 'it returns false'. Refute it at one input. -/
def statorBothWrong : ChangeSpec := { name := "statorBoth", fn := fun _ => fun
  | [d1, d2, d3] => { results := [.lit (.bool false)], args := [d1, d2, d3] }
  | _ => none }
def StatorBothWrongFalsely : Prop := statorBothRow.holds Tryd.pinned (OpenSpec.ofChange statorBothWrong)

/-- 'guidewaylaw03.StatorStates': WHATEVER THE INPUT: true; the input reads as it did. -/
def statorStatesSpec : ChangeSpec := { name := "statorStates", fn := fun _ => fun
  | [d1, d2, d3] => { results := [.lit (.bool true)], args := [d1, d2, d3] }
  | _ => none }
def statorStatesRow : OpenClaim := { program := "ytdbglpaejmhbjaadoor", sum := "b44e6019ff0511942da5677d20523877c6581f9eb64be35d84adc93bd86c3edc", func := "guideway/guidewaylaw03.StatorStates", spec := "statorStates", unfollowed := true, recurses := true, named := ["guideway/stator.states"], apart := false, laid := [("guideway/stator.states", laid_guideway_stator_states)] }
def StatorStatesSaid : Prop := statorStatesRow.holds Tryd.pinned (OpenSpec.ofChange statorStatesSpec)

/-- ITS FALSE NEIGHBOUR: 'it returns false'. Refute it at one input. -/
def statorStatesWrong : ChangeSpec := { name := "statorStates", fn := fun _ => fun
  | [d1, d2, d3] => { results := [.lit (.bool false)], args := [d1, d2, d3] }
  | _ => none }
def StatorStatesWrongFalsely : Prop := statorStatesRow.holds Tryd.pinned (OpenSpec.ofChange statorStatesWrong)

/-- 'guidewaylaw03.StatorNoStep': WHATEVER THE INPUT: true; the input reads as it did. -/
def statorNoStepSpec : ChangeSpec := { name := "statorNoStep", fn := fun _ => fun
  | [d1, d2, d3] => { results := [.lit (.bool true)], args := [d1, d2, d3] }
  | _ => none }
def statorNoStepRow : OpenClaim := { program := "ytdbglpaejmhbjaadoor", sum := "b44e6019ff0511942da5677d20523877c6581f9eb64be35d84adc93bd86c3edc", func := "guideway/guidewaylaw03.StatorNoStep", spec := "statorNoStep", unfollowed := true, recurses := true, named := ["guideway/stator.states"], apart := false, laid := [("guideway/stator.states", laid_guideway_stator_states)] }
def StatorNoStepSaid : Prop := statorNoStepRow.holds Tryd.pinned (OpenSpec.ofChange statorNoStepSpec)

/-- ITS FALSE NEIGHBOUR: 'it returns false'. Refute it at one input. -/
def statorNoStepWrong : ChangeSpec := { name := "statorNoStep", fn := fun _ => fun
  | [d1, d2, d3] => { results := [.lit (.bool false)], args := [d1, d2, d3] }
  | _ => none }
def StatorNoStepWrongFalsely : Prop := statorNoStepRow.holds Tryd.pinned (OpenSpec.ofChange statorNoStepWrong)

/-- 'guidewaylaw03.StatorBooks': WHATEVER THE INPUT: true; the input reads as it did. -/
def statorBooksSpec : ChangeSpec := { name := "statorBooks", fn := fun _ => fun
  | [d] => { results := [.lit (.bool true)], args := [d] }
  | _ => none }
def statorBooksRow : OpenClaim := { program := "ytdbglpaejmhbjaadoor", sum := "b44e6019ff0511942da5677d20523877c6581f9eb64be35d84adc93bd86c3edc", func := "guideway/guidewaylaw03.StatorBooks", spec := "statorBooks", unfollowed := true, recurses := true, named := ["guideway/stator.states"], apart := false, laid := [("guideway/stator.states", laid_guideway_stator_states)] }
def StatorBooksSaid : Prop := statorBooksRow.holds Tryd.pinned (OpenSpec.ofChange statorBooksSpec)

/-- ITS FALSE NEIGHBOUR: 'it returns false'. Refute it at one input. -/
def statorBooksWrong : ChangeSpec := { name := "statorBooks", fn := fun _ => fun
  | [d] => { results := [.lit (.bool false)], args := [d] }
  | _ => none }
def StatorBooksWrongFalsely : Prop := statorBooksRow.holds Tryd.pinned (OpenSpec.ofChange statorBooksWrong)

/-- 'guidewaylaw03.StatorVectors': WHATEVER THE INPUT: true; the input reads as it did. -/
def statorVectorsSpec : ChangeSpec := { name := "statorVectors", fn := fun _ => fun
  | [d1, d2] => { results := [.lit (.bool true)], args := [d1, d2] }
  | _ => none }
def statorVectorsRow : OpenClaim := { program := "ytdbglpaejmhbjaadoor", sum := "b44e6019ff0511942da5677d20523877c6581f9eb64be35d84adc93bd86c3edc", func := "guideway/guidewaylaw03.StatorVectors", spec := "statorVectors", unfollowed := true, recurses := true, named := ["guideway/stator.states"], apart := false, laid := [("guideway/stator.states", laid_guideway_stator_states)] }
def StatorVectorsSaid : Prop := statorVectorsRow.holds Tryd.pinned (OpenSpec.ofChange statorVectorsSpec)

/-- ITS FALSE NEIGHBOUR: 'it returns false'. Refute it at one input. -/
def statorVectorsWrong : ChangeSpec := { name := "statorVectors", fn := fun _ => fun
  | [d1, d2] => { results := [.lit (.bool false)], args := [d1, d2] }
  | _ => none }
def StatorVectorsWrongFalsely : Prop := statorVectorsRow.holds Tryd.pinned (OpenSpec.ofChange statorVectorsWrong)

/- THE SECOND FORM. 'bulk': how many values and letters a reading holds, each counted each time it is reached (what is shared counts as often as it is met; a slice's spare places count too). A statement '..UptoSaid' is the law's where the arguments, and the package variables that the reading takes, are together of bulk at most 1048576: NARROWER than '..Said'. Prove '..Said' where nothing that the law and all that it calls make is longer than what came in: it says more and counts as full. Else prove '..UptoSaid'. A law counts once. -/
mutual
def uptoBulk {H : Type} : DataW H → Nat
  | .lit (.string bytes) => bytes.length + 1
  | .lit _ => 1
  | .nil => 1
  | .ptr d => uptoBulk d + 1
  | .slice elems spare => uptoBulkAll elems + uptoBulkAll spare + 1
  | .agg parts => uptoBulkAll parts + 1
  | .iface _ d => uptoBulk d + 1
  | .map entries => uptoBulkEntries entries + 1
  | .held _ => 1
def uptoBulkAll {H : Type} : List (DataW H) → Nat
  | [] => 0
  | d :: r => uptoBulk d + uptoBulkAll r
def uptoBulkEntries {H : Type} : List (Lit × DataW H) → Nat
  | [] => 0
  | x :: r => uptoBulkEntry x + uptoBulkEntries r
def uptoBulkEntry {H : Type} : Lit × DataW H → Nat
  | (.string bytes, d) => bytes.length + uptoBulk d + 1
  | (_, d) => uptoBulk d + 1
 end
def uptoSmall : (H : Type) → List (DataW H) → Bool := fun _ ds => decide (uptoBulkAll ds ≤ 1048576)
def OpenSpec.upto (s : _root_.Go.ChangeSpec) : _root_.Go.OpenSpec := { _root_.Go.OpenSpec.ofChange s with cond := some uptoSmall }

/-- 'guidewaylaw03.StatorEven', WHERE WHAT IT READS IS OF BULK AT MOST 1048576: true; the input reads as it did. -/
def statorEvenUptoRow : OpenClaim := { program := "ytdbglpaejmhbjaadoor", sum := "b44e6019ff0511942da5677d20523877c6581f9eb64be35d84adc93bd86c3edc", func := "guideway/guidewaylaw03.StatorEven", spec := "statorEven", unfollowed := true, recurses := true, named := ["guideway/stator.states"], apart := false, laid := [("guideway/stator.states", laid_guideway_stator_states)], narrowed := true }
def StatorEvenUptoSaid : Prop := statorEvenUptoRow.holds Tryd.pinned (OpenSpec.upto statorEvenSpec)

/-- 'guidewaylaw03.StatorTurns', WHERE WHAT IT READS IS OF BULK AT MOST 1048576: true; the input reads as it did. -/
def statorTurnsUptoRow : OpenClaim := { program := "ytdbglpaejmhbjaadoor", sum := "b44e6019ff0511942da5677d20523877c6581f9eb64be35d84adc93bd86c3edc", func := "guideway/guidewaylaw03.StatorTurns", spec := "statorTurns", unfollowed := true, recurses := true, named := ["guideway/stator.states"], apart := false, laid := [("guideway/stator.states", laid_guideway_stator_states)], narrowed := true }
def StatorTurnsUptoSaid : Prop := statorTurnsUptoRow.holds Tryd.pinned (OpenSpec.upto statorTurnsSpec)

/-- 'guidewaylaw03.StatorTracks', WHERE WHAT IT READS IS OF BULK AT MOST 1048576: true; the input reads as it did. -/
def statorTracksUptoRow : OpenClaim := { program := "ytdbglpaejmhbjaadoor", sum := "b44e6019ff0511942da5677d20523877c6581f9eb64be35d84adc93bd86c3edc", func := "guideway/guidewaylaw03.StatorTracks", spec := "statorTracks", unfollowed := true, recurses := true, named := ["guideway/stator.states"], apart := false, laid := [("guideway/stator.states", laid_guideway_stator_states)], narrowed := true }
def StatorTracksUptoSaid : Prop := statorTracksUptoRow.holds Tryd.pinned (OpenSpec.upto statorTracksSpec)

/-- 'guidewaylaw03.StatorRest', WHERE WHAT IT READS IS OF BULK AT MOST 1048576: true; the input reads as it did. -/
def statorRestUptoRow : OpenClaim := { program := "ytdbglpaejmhbjaadoor", sum := "b44e6019ff0511942da5677d20523877c6581f9eb64be35d84adc93bd86c3edc", func := "guideway/guidewaylaw03.StatorRest", spec := "statorRest", unfollowed := true, recurses := true, named := ["guideway/stator.states"], apart := false, laid := [("guideway/stator.states", laid_guideway_stator_states)], narrowed := true }
def StatorRestUptoSaid : Prop := statorRestUptoRow.holds Tryd.pinned (OpenSpec.upto statorRestSpec)

/-- 'guidewaylaw03.StatorOnTrack', WHERE WHAT IT READS IS OF BULK AT MOST 1048576: true; the input reads as it did. -/
def statorOnTrackUptoRow : OpenClaim := { program := "ytdbglpaejmhbjaadoor", sum := "b44e6019ff0511942da5677d20523877c6581f9eb64be35d84adc93bd86c3edc", func := "guideway/guidewaylaw03.StatorOnTrack", spec := "statorOnTrack", unfollowed := true, recurses := true, named := ["guideway/stator.states"], apart := false, laid := [("guideway/stator.states", laid_guideway_stator_states)], narrowed := true }
def StatorOnTrackUptoSaid : Prop := statorOnTrackUptoRow.holds Tryd.pinned (OpenSpec.upto statorOnTrackSpec)

/-- 'guidewaylaw03.StatorChanges', WHERE WHAT IT READS IS OF BULK AT MOST 1048576: true; the input reads as it did. -/
def statorChangesUptoRow : OpenClaim := { program := "ytdbglpaejmhbjaadoor", sum := "b44e6019ff0511942da5677d20523877c6581f9eb64be35d84adc93bd86c3edc", func := "guideway/guidewaylaw03.StatorChanges", spec := "statorChanges", unfollowed := true, recurses := true, named := ["guideway/stator.states"], apart := false, laid := [("guideway/stator.states", laid_guideway_stator_states)], narrowed := true }
def StatorChangesUptoSaid : Prop := statorChangesUptoRow.holds Tryd.pinned (OpenSpec.upto statorChangesSpec)

/-- 'guidewaylaw03.StatorForces', WHERE WHAT IT READS IS OF BULK AT MOST 1048576: true; the input reads as it did. -/
def statorForcesUptoRow : OpenClaim := { program := "ytdbglpaejmhbjaadoor", sum := "b44e6019ff0511942da5677d20523877c6581f9eb64be35d84adc93bd86c3edc", func := "guideway/guidewaylaw03.StatorForces", spec := "statorForces", unfollowed := true, recurses := true, named := ["guideway/stator.states"], apart := false, laid := [("guideway/stator.states", laid_guideway_stator_states)], narrowed := true }
def StatorForcesUptoSaid : Prop := statorForcesUptoRow.holds Tryd.pinned (OpenSpec.upto statorForcesSpec)

/-- 'guidewaylaw03.StatorBoth', WHERE WHAT IT READS IS OF BULK AT MOST 1048576: true; the input reads as it did. -/
def statorBothUptoRow : OpenClaim := { program := "ytdbglpaejmhbjaadoor", sum := "b44e6019ff0511942da5677d20523877c6581f9eb64be35d84adc93bd86c3edc", func := "guideway/guidewaylaw03.StatorBoth", spec := "statorBoth", unfollowed := true, recurses := true, named := ["guideway/stator.states"], apart := false, laid := [("guideway/stator.states", laid_guideway_stator_states)], narrowed := true }
def StatorBothUptoSaid : Prop := statorBothUptoRow.holds Tryd.pinned (OpenSpec.upto statorBothSpec)

/-- 'guidewaylaw03.StatorStates', WHERE WHAT IT READS IS OF BULK AT MOST 1048576: true; the input reads as it did. -/
def statorStatesUptoRow : OpenClaim := { program := "ytdbglpaejmhbjaadoor", sum := "b44e6019ff0511942da5677d20523877c6581f9eb64be35d84adc93bd86c3edc", func := "guideway/guidewaylaw03.StatorStates", spec := "statorStates", unfollowed := true, recurses := true, named := ["guideway/stator.states"], apart := false, laid := [("guideway/stator.states", laid_guideway_stator_states)], narrowed := true }
def StatorStatesUptoSaid : Prop := statorStatesUptoRow.holds Tryd.pinned (OpenSpec.upto statorStatesSpec)

/-- 'guidewaylaw03.StatorNoStep', WHERE WHAT IT READS IS OF BULK AT MOST 1048576: true; the input reads as it did. -/
def statorNoStepUptoRow : OpenClaim := { program := "ytdbglpaejmhbjaadoor", sum := "b44e6019ff0511942da5677d20523877c6581f9eb64be35d84adc93bd86c3edc", func := "guideway/guidewaylaw03.StatorNoStep", spec := "statorNoStep", unfollowed := true, recurses := true, named := ["guideway/stator.states"], apart := false, laid := [("guideway/stator.states", laid_guideway_stator_states)], narrowed := true }
def StatorNoStepUptoSaid : Prop := statorNoStepUptoRow.holds Tryd.pinned (OpenSpec.upto statorNoStepSpec)

/-- 'guidewaylaw03.StatorBooks', WHERE WHAT IT READS IS OF BULK AT MOST 1048576: true; the input reads as it did. -/
def statorBooksUptoRow : OpenClaim := { program := "ytdbglpaejmhbjaadoor", sum := "b44e6019ff0511942da5677d20523877c6581f9eb64be35d84adc93bd86c3edc", func := "guideway/guidewaylaw03.StatorBooks", spec := "statorBooks", unfollowed := true, recurses := true, named := ["guideway/stator.states"], apart := false, laid := [("guideway/stator.states", laid_guideway_stator_states)], narrowed := true }
def StatorBooksUptoSaid : Prop := statorBooksUptoRow.holds Tryd.pinned (OpenSpec.upto statorBooksSpec)

/-- 'guidewaylaw03.StatorVectors', WHERE WHAT IT READS IS OF BULK AT MOST 1048576: true; the input reads as it did. -/
def statorVectorsUptoRow : OpenClaim := { program := "ytdbglpaejmhbjaadoor", sum := "b44e6019ff0511942da5677d20523877c6581f9eb64be35d84adc93bd86c3edc", func := "guideway/guidewaylaw03.StatorVectors", spec := "statorVectors", unfollowed := true, recurses := true, named := ["guideway/stator.states"], apart := false, laid := [("guideway/stator.states", laid_guideway_stator_states)], narrowed := true }
def StatorVectorsUptoSaid : Prop := statorVectorsUptoRow.holds Tryd.pinned (OpenSpec.upto statorVectorsSpec)

end Rows
end Go.Proofs.YtdbglpaejmhbjaaDoor
