/-
  No cell of these rows narrows 'for every input' (looked for: loops, veiled, ifaces, maps, wideKeys, modest, calm, conditions, laid).
  DERIVED. THE GIVEN ROWS OF THIS SEAT. 3 by the template 'for every input the law returns true; each argument reads behind the call as it read before'; 0 by the template 'total and deterministic' (their statements: YtlebjleebclmgaaTotals.lean).
  GIVEN WITH THE SEED: the statements are not yours to turn. If you find one false, say at which input.
  Laid BY PROGRAM, IN A SANDBOX (cutbox-rows.mjs): the forced cells as the released guide's own fill.sh prints them over the translation 8d6e6c6ac66593c5… (all of the seat's roots in one cut). By AI agents, Wed Nov 11 2026. No macro, syntax, notation, axiom, sorry.
-/
import Derived.Test.YtlebjleebclmgaaChecked
import GoSem.Claim
import GoSem.ClaimJoined
import GoSem.ClaimMapViews
import Derived.JoinedTies
import Derived.KernelRfl
namespace Go.Proofs.Ytlebjleebclmgaa
/- THE CELL 'sum', in the pinned program and in every row, IS THE sha256 OF THE DUMP (.gsa) THAT YtlebjleebclmgaaProg.lean LOADS. Nothing in Lean hashes anything: it is a label: what it is worth is what the hold of that sum in a sandbox is worth. -/
noncomputable def Try.pinned : Pinned := { name := "ytlebjleebclmgaa", sum := "8d6e6c6ac66593c542fc0aeca7e96e073afa9c04abbdac38a3b63efb779d88cc", checked := Try.checked }
namespace Rows
def none {H : Type} : Left H := { results := [], args := [] }

/-- 'guidewaylaw01.LineLines': WHATEVER THE INPUT: true; the input reads as it did. -/
def lineLinesSpec : ChangeSpec := { name := "lineLines", fn := fun _ => fun
  | [d1, d2] => { results := [.lit (.bool true)], args := [d1, d2] }
  | _ => none }
def lineLinesRow : OpenClaim := { program := "ytlebjleebclmgaa", sum := "8d6e6c6ac66593c542fc0aeca7e96e073afa9c04abbdac38a3b63efb779d88cc", func := "guideway/guidewaylaw01.LineLines", spec := "lineLines", unfollowed := true, recurses := true, named := ["math/bits.divideError", "math/bits.overflowError"], apart := false }
def LineLinesSaid : Prop := lineLinesRow.holds Try.pinned (OpenSpec.ofChange lineLinesSpec)

/-- ITS FALSE NEIGHBOUR: 'it returns false'. Refute it at one input. -/
def lineLinesWrong : ChangeSpec := { name := "lineLines", fn := fun _ => fun
  | [d1, d2] => { results := [.lit (.bool false)], args := [d1, d2] }
  | _ => none }
def LineLinesWrongFalsely : Prop := lineLinesRow.holds Try.pinned (OpenSpec.ofChange lineLinesWrong)

/-- 'guidewaylaw01.LinePlaces': WHATEVER THE INPUT: true; the input reads as it did. -/
def linePlacesSpec : ChangeSpec := { name := "linePlaces", fn := fun _ => fun
  | [d1, d2] => { results := [.lit (.bool true)], args := [d1, d2] }
  | _ => none }
def linePlacesRow : OpenClaim := { program := "ytlebjleebclmgaa", sum := "8d6e6c6ac66593c542fc0aeca7e96e073afa9c04abbdac38a3b63efb779d88cc", func := "guideway/guidewaylaw01.LinePlaces", spec := "linePlaces", unfollowed := true, recurses := true, named := ["math/bits.divideError", "math/bits.overflowError"], apart := false }
def LinePlacesSaid : Prop := linePlacesRow.holds Try.pinned (OpenSpec.ofChange linePlacesSpec)

/-- ITS FALSE NEIGHBOUR: 'it returns false'. Refute it at one input. -/
def linePlacesWrong : ChangeSpec := { name := "linePlaces", fn := fun _ => fun
  | [d1, d2] => { results := [.lit (.bool false)], args := [d1, d2] }
  | _ => none }
def LinePlacesWrongFalsely : Prop := linePlacesRow.holds Try.pinned (OpenSpec.ofChange linePlacesWrong)

/-- 'guidewaylaw01.LineGradients': WHATEVER THE INPUT: true; the input reads as it did. -/
def lineGradientsSpec : ChangeSpec := { name := "lineGradients", fn := fun _ => fun
  | [d1, d2] => { results := [.lit (.bool true)], args := [d1, d2] }
  | _ => none }
def lineGradientsRow : OpenClaim := { program := "ytlebjleebclmgaa", sum := "8d6e6c6ac66593c542fc0aeca7e96e073afa9c04abbdac38a3b63efb779d88cc", func := "guideway/guidewaylaw01.LineGradients", spec := "lineGradients", unfollowed := true, recurses := true, named := ["math/bits.divideError", "math/bits.overflowError"], apart := false }
def LineGradientsSaid : Prop := lineGradientsRow.holds Try.pinned (OpenSpec.ofChange lineGradientsSpec)

/-- ITS FALSE NEIGHBOUR: 'it returns false'. Refute it at one input. -/
def lineGradientsWrong : ChangeSpec := { name := "lineGradients", fn := fun _ => fun
  | [d1, d2] => { results := [.lit (.bool false)], args := [d1, d2] }
  | _ => none }
def LineGradientsWrongFalsely : Prop := lineGradientsRow.holds Try.pinned (OpenSpec.ofChange lineGradientsWrong)

/- THE SECOND FORM. 'bulk': how many values and letters a reading holds, each counted each time it is reached (what is shared counts as often as it is met; a slice's spare places count too). A statement '..UptoSaid' is the law's where the arguments, and the package variables that the reading takes, are together of bulk at most 1048576: NARROWER than '..Said'. Prove '..Said' where nothing that the law and all that it calls make is longer than what came in: it says more and counts as full. Else prove '..UptoSaid'. A law counts once. -/
mutual
def uptoBulk {H : Type} : DataW H → Nat
  | .lit (.string bytes) => bytes.length + 1
  | .lit _ => 1
  | .nil => 1
  | .ptr d => uptoBulk d + 1
  | .slice elems spare => uptoBulkAll elems + uptoBulkAll spare + 1
  | .agg parts => uptoBulkAll parts + 1
  | .iface _ d => uptoBulk d + 1
  | .map entries => uptoBulkEntries entries + 1
  | .held _ => 1
def uptoBulkAll {H : Type} : List (DataW H) → Nat
  | [] => 0
  | d :: r => uptoBulk d + uptoBulkAll r
def uptoBulkEntries {H : Type} : List (Lit × DataW H) → Nat
  | [] => 0
  | x :: r => uptoBulkEntry x + uptoBulkEntries r
def uptoBulkEntry {H : Type} : Lit × DataW H → Nat
  | (.string bytes, d) => bytes.length + uptoBulk d + 1
  | (_, d) => uptoBulk d + 1
 end
def uptoSmall : (H : Type) → List (DataW H) → Bool := fun _ ds => decide (uptoBulkAll ds ≤ 1048576)
def OpenSpec.upto (s : _root_.Go.ChangeSpec) : _root_.Go.OpenSpec := { _root_.Go.OpenSpec.ofChange s with cond := some uptoSmall }

/-- 'guidewaylaw01.LineLines', WHERE WHAT IT READS IS OF BULK AT MOST 1048576: true; the input reads as it did. -/
def lineLinesUptoRow : OpenClaim := { program := "ytlebjleebclmgaa", sum := "8d6e6c6ac66593c542fc0aeca7e96e073afa9c04abbdac38a3b63efb779d88cc", func := "guideway/guidewaylaw01.LineLines", spec := "lineLines", unfollowed := true, recurses := true, named := ["math/bits.divideError", "math/bits.overflowError"], apart := false, narrowed := true }
def LineLinesUptoSaid : Prop := lineLinesUptoRow.holds Try.pinned (OpenSpec.upto lineLinesSpec)

/-- 'guidewaylaw01.LinePlaces', WHERE WHAT IT READS IS OF BULK AT MOST 1048576: true; the input reads as it did. -/
def linePlacesUptoRow : OpenClaim := { program := "ytlebjleebclmgaa", sum := "8d6e6c6ac66593c542fc0aeca7e96e073afa9c04abbdac38a3b63efb779d88cc", func := "guideway/guidewaylaw01.LinePlaces", spec := "linePlaces", unfollowed := true, recurses := true, named := ["math/bits.divideError", "math/bits.overflowError"], apart := false, narrowed := true }
def LinePlacesUptoSaid : Prop := linePlacesUptoRow.holds Try.pinned (OpenSpec.upto linePlacesSpec)

/-- 'guidewaylaw01.LineGradients', WHERE WHAT IT READS IS OF BULK AT MOST 1048576: true; the input reads as it did. -/
def lineGradientsUptoRow : OpenClaim := { program := "ytlebjleebclmgaa", sum := "8d6e6c6ac66593c542fc0aeca7e96e073afa9c04abbdac38a3b63efb779d88cc", func := "guideway/guidewaylaw01.LineGradients", spec := "lineGradients", unfollowed := true, recurses := true, named := ["math/bits.divideError", "math/bits.overflowError"], apart := false, narrowed := true }
def LineGradientsUptoSaid : Prop := lineGradientsUptoRow.holds Try.pinned (OpenSpec.upto lineGradientsSpec)

end Rows
end Go.Proofs.Ytlebjleebclmgaa
