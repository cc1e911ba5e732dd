/-
  DERIVED. GIVEN WITH THE SEED: THE CARDS: each row of YtnblahgocddpbaaDoorRows.lean that lists a variable, with what it lists TIED to the program's text (the seventh form; the later family's looks); each row that meets fmt, with fmt's text TOLD by the authors' own Lean function (tested against real Go, not proved from fmt's source: count such statements apart). THE CARD IS WHAT COUNTS. Prove the row's statement (the work); the ties are given (YtnblahgocddpbaaDoorTie.lean); close each card by the builder's one call (the guide's Derived/Test/ToyasCard.lean, 'card_holds'). Laid BY PROGRAM, IN A SANDBOX (cutbox-door.mjs). By AI agents, Wed Nov 11 2026. No macro, syntax, notation, axiom, sorry.
-/
import Derived.Test.YtnblahgocddpbaaDoorRows
import GoSem.ClaimSeven
namespace Go.Proofs.YtnblahgocddpbaaDoor
namespace Rows

/-- THE TIED CARD OF 'guidewaylaw03.StatorBoth'. -/
def statorBothCard : Claim7 := { stood := { row := statorBothRow, standIns := [], harness := (true, "b212e08c5979ca12924967ac562c5ce66202438b8afdb63c5a833a0750de4c08"), looks := false }, kinds := [], alts := [], laidByText := true, laidKinds := [.data], laidTests := true, laidLooks := .later }
def StatorBothCardSaid : Prop := Claim7.holds Tryd.pinned (.plain (OpenSpec.ofChange statorBothSpec)) statorBothCard

/-- THE SECOND FORM's CARD OF 'guidewaylaw03.StatorBoth'. -/
def statorBothUptoCard : Claim7 := { stood := { row := statorBothUptoRow, standIns := [], harness := (true, "b212e08c5979ca12924967ac562c5ce66202438b8afdb63c5a833a0750de4c08"), looks := false }, kinds := [], alts := [], laidByText := true, laidKinds := [.data], laidTests := true, laidLooks := .later }
def StatorBothUptoCardSaid : Prop := Claim7.holds Tryd.pinned (.plain (OpenSpec.upto statorBothSpec)) statorBothUptoCard
end Rows
end Go.Proofs.YtnblahgocddpbaaDoor
