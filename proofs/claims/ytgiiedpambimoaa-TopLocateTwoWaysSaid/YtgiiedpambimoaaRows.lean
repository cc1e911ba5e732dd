/-
  No cell of these rows narrows 'for every input' (looked for: loops, veiled, ifaces, maps, wideKeys, modest, calm, conditions, laid).
  DERIVED. THE GIVEN ROWS OF THIS SEAT. 3 by the template 'for every input the law returns true; each argument reads behind the call as it read before'; 0 by the template 'total and deterministic' (their statements: YtgiiedpambimoaaTotals.lean).
  GIVEN WITH THE SEED: the statements are not yours to turn. If you find one false, say at which input.
  Laid BY PROGRAM, IN A SANDBOX (cutbox-rows.mjs): the forced cells as the released guide's own fill.sh prints them over the translation 333d45a03abba37d… (all of the seat's roots in one cut). By AI agents, Wed Nov 11 2026. No macro, syntax, notation, axiom, sorry.
-/
import Derived.Test.YtgiiedpambimoaaChecked
import GoSem.Claim
import GoSem.ClaimJoined
import GoSem.ClaimMapViews
import Derived.JoinedTies
import Derived.KernelRfl
namespace Go.Proofs.Ytgiiedpambimoaa
/- THE CELL 'sum', in the pinned program and in every row, IS THE sha256 OF THE DUMP (.gsa) THAT YtgiiedpambimoaaProg.lean LOADS. Nothing in Lean hashes anything: it is a label: what it is worth is what the hold of that sum in a sandbox is worth. -/
noncomputable def Try.pinned : Pinned := { name := "ytgiiedpambimoaa", sum := "333d45a03abba37d799e11038ed228288815ba32010c94860d6e4695783e427a", checked := Try.checked }
namespace Rows
def none {H : Type} : Left H := { results := [], args := [] }

/-- 'guidewaytop.TopLocateTwoWays': WHATEVER THE INPUT: true; the input reads as it did. -/
def topLocateTwoWaysSpec : ChangeSpec := { name := "topLocateTwoWays", fn := fun _ => fun
  | [d1, d2, d3] => { results := [.lit (.bool true)], args := [d1, d2, d3] }
  | _ => none }
def topLocateTwoWaysRow : OpenClaim := { program := "ytgiiedpambimoaa", sum := "333d45a03abba37d799e11038ed228288815ba32010c94860d6e4695783e427a", func := "guideway/guidewaytop.TopLocateTwoWays", spec := "topLocateTwoWays", unfollowed := true, recurses := true, apart := false }
def TopLocateTwoWaysSaid : Prop := topLocateTwoWaysRow.holds Try.pinned (OpenSpec.ofChange topLocateTwoWaysSpec)

/-- ITS FALSE NEIGHBOUR: 'it returns false'. Refute it at one input. -/
def topLocateTwoWaysWrong : ChangeSpec := { name := "topLocateTwoWays", fn := fun _ => fun
  | [d1, d2, d3] => { results := [.lit (.bool false)], args := [d1, d2, d3] }
  | _ => none }
def TopLocateTwoWaysWrongFalsely : Prop := topLocateTwoWaysRow.holds Try.pinned (OpenSpec.ofChange topLocateTwoWaysWrong)

/-- 'guidewaylaw05.BrakeNoFaster': WHATEVER THE INPUT: true; the input reads as it did. -/
def brakeNoFasterSpec : ChangeSpec := { name := "brakeNoFaster", fn := fun _ => fun
  | [d1, d2, d3] => { results := [.lit (.bool true)], args := [d1, d2, d3] }
  | _ => none }
def brakeNoFasterRow : OpenClaim := { program := "ytgiiedpambimoaa", sum := "333d45a03abba37d799e11038ed228288815ba32010c94860d6e4695783e427a", func := "guideway/guidewaylaw05.BrakeNoFaster", spec := "brakeNoFaster", unfollowed := true, recurses := true, apart := false }
def BrakeNoFasterSaid : Prop := brakeNoFasterRow.holds Try.pinned (OpenSpec.ofChange brakeNoFasterSpec)

/-- ITS FALSE NEIGHBOUR: 'it returns false'. Refute it at one input. -/
def brakeNoFasterWrong : ChangeSpec := { name := "brakeNoFaster", fn := fun _ => fun
  | [d1, d2, d3] => { results := [.lit (.bool false)], args := [d1, d2, d3] }
  | _ => none }
def BrakeNoFasterWrongFalsely : Prop := brakeNoFasterRow.holds Try.pinned (OpenSpec.ofChange brakeNoFasterWrong)

/-- 'guidewaytop.TopBrakeTogether': WHATEVER THE INPUT: true; the input reads as it did. -/
def topBrakeTogetherSpec : ChangeSpec := { name := "topBrakeTogether", fn := fun _ => fun
  | [d1, d2, d3] => { results := [.lit (.bool true)], args := [d1, d2, d3] }
  | _ => none }
def topBrakeTogetherRow : OpenClaim := { program := "ytgiiedpambimoaa", sum := "333d45a03abba37d799e11038ed228288815ba32010c94860d6e4695783e427a", func := "guideway/guidewaytop.TopBrakeTogether", spec := "topBrakeTogether", unfollowed := true, recurses := true, apart := false }
def TopBrakeTogetherSaid : Prop := topBrakeTogetherRow.holds Try.pinned (OpenSpec.ofChange topBrakeTogetherSpec)

/-- ITS FALSE NEIGHBOUR: 'it returns false'. Refute it at one input. -/
def topBrakeTogetherWrong : ChangeSpec := { name := "topBrakeTogether", fn := fun _ => fun
  | [d1, d2, d3] => { results := [.lit (.bool false)], args := [d1, d2, d3] }
  | _ => none }
def TopBrakeTogetherWrongFalsely : Prop := topBrakeTogetherRow.holds Try.pinned (OpenSpec.ofChange topBrakeTogetherWrong)

/- THE SECOND FORM. 'bulk': how many values and letters a reading holds, each counted each time it is reached (what is shared counts as often as it is met; a slice's spare places count too). A statement '..UptoSaid' is the law's where the arguments, and the package variables that the reading takes, are together of bulk at most 1048576: NARROWER than '..Said'. Prove '..Said' where nothing that the law and all that it calls make is longer than what came in: it says more and counts as full. Else prove '..UptoSaid'. A law counts once. -/
mutual
def uptoBulk {H : Type} : DataW H → Nat
  | .lit (.string bytes) => bytes.length + 1
  | .lit _ => 1
  | .nil => 1
  | .ptr d => uptoBulk d + 1
  | .slice elems spare => uptoBulkAll elems + uptoBulkAll spare + 1
  | .agg parts => uptoBulkAll parts + 1
  | .iface _ d => uptoBulk d + 1
  | .map entries => uptoBulkEntries entries + 1
  | .held _ => 1
def uptoBulkAll {H : Type} : List (DataW H) → Nat
  | [] => 0
  | d :: r => uptoBulk d + uptoBulkAll r
def uptoBulkEntries {H : Type} : List (Lit × DataW H) → Nat
  | [] => 0
  | x :: r => uptoBulkEntry x + uptoBulkEntries r
def uptoBulkEntry {H : Type} : Lit × DataW H → Nat
  | (.string bytes, d) => bytes.length + uptoBulk d + 1
  | (_, d) => uptoBulk d + 1
 end
def uptoSmall : (H : Type) → List (DataW H) → Bool := fun _ ds => decide (uptoBulkAll ds ≤ 1048576)
def OpenSpec.upto (s : _root_.Go.ChangeSpec) : _root_.Go.OpenSpec := { _root_.Go.OpenSpec.ofChange s with cond := some uptoSmall }

/-- 'guidewaytop.TopLocateTwoWays', WHERE WHAT IT READS IS OF BULK AT MOST 1048576: true; the input reads as it did. -/
def topLocateTwoWaysUptoRow : OpenClaim := { program := "ytgiiedpambimoaa", sum := "333d45a03abba37d799e11038ed228288815ba32010c94860d6e4695783e427a", func := "guideway/guidewaytop.TopLocateTwoWays", spec := "topLocateTwoWays", unfollowed := true, recurses := true, apart := false, narrowed := true }
def TopLocateTwoWaysUptoSaid : Prop := topLocateTwoWaysUptoRow.holds Try.pinned (OpenSpec.upto topLocateTwoWaysSpec)

/-- 'guidewaylaw05.BrakeNoFaster', WHERE WHAT IT READS IS OF BULK AT MOST 1048576: true; the input reads as it did. -/
def brakeNoFasterUptoRow : OpenClaim := { program := "ytgiiedpambimoaa", sum := "333d45a03abba37d799e11038ed228288815ba32010c94860d6e4695783e427a", func := "guideway/guidewaylaw05.BrakeNoFaster", spec := "brakeNoFaster", unfollowed := true, recurses := true, apart := false, narrowed := true }
def BrakeNoFasterUptoSaid : Prop := brakeNoFasterUptoRow.holds Try.pinned (OpenSpec.upto brakeNoFasterSpec)

/-- 'guidewaytop.TopBrakeTogether', WHERE WHAT IT READS IS OF BULK AT MOST 1048576: true; the input reads as it did. -/
def topBrakeTogetherUptoRow : OpenClaim := { program := "ytgiiedpambimoaa", sum := "333d45a03abba37d799e11038ed228288815ba32010c94860d6e4695783e427a", func := "guideway/guidewaytop.TopBrakeTogether", spec := "topBrakeTogether", unfollowed := true, recurses := true, apart := false, narrowed := true }
def TopBrakeTogetherUptoSaid : Prop := topBrakeTogetherUptoRow.holds Try.pinned (OpenSpec.upto topBrakeTogetherSpec)

end Rows
end Go.Proofs.Ytgiiedpambimoaa
