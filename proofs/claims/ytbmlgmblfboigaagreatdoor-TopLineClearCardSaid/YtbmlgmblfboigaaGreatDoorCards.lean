/-
  DERIVED. GIVEN WITH THE SEED: THE CARDS: each row of YtbmlgmblfboigaaGreatDoorRows.lean that lists a variable, with what it lists TIED to the program's text (the seventh form; the later family's looks); each row that meets fmt, with fmt's text TOLD by the authors' own Lean function (tested against real Go, not proved from fmt's source: count such statements apart). THE CARD IS WHAT COUNTS. Prove the row's statement (the work); the ties are given (YtbmlgmblfboigaaGreatDoorTie.lean); close each card by the builder's one call (the guide's Derived/Test/ToyasCard.lean, 'card_holds'). Laid BY PROGRAM, IN A SANDBOX (cutbox-door.mjs). By AI agents, Wed Nov 11 2026. No macro, syntax, notation, axiom, sorry.
-/
import Derived.Test.YtbmlgmblfboigaaGreatDoorRows
import GoSem.ClaimSeven
namespace Go.Proofs.YtbmlgmblfboigaaGreatDoor
namespace Rows

/-- THE TIED CARD OF 'guidewaylaw01.LineParses'. -/
def lineParsesCard : Claim7 := { stood := { row := lineParsesRow, standIns := [], harness := (true, "7c61980741f8760a4a30db39f2b131fc8481b149d51c61483fc3926ed51646dc"), looks := true }, kinds := [], alts := [], laidByText := true, laidKinds := [.data, .data, .data, .sentinel, .sentinel], laidTests := true, laidLooks := .later }
def LineParsesCardSaid : Prop := Claim7.holds Tryz.pinned (.plain (OpenSpec.ofChange lineParsesSpec)) lineParsesCard

/-- THE TIED CARD OF 'guidewaylaw01.LinePrints'. -/
def linePrintsCard : Claim7 := { stood := { row := linePrintsRow, standIns := [], harness := (true, "7c61980741f8760a4a30db39f2b131fc8481b149d51c61483fc3926ed51646dc"), looks := true }, kinds := [], alts := [], laidByText := true, laidKinds := [.data, .data, .data, .sentinel, .sentinel], laidTests := true, laidLooks := .later }
def LinePrintsCardSaid : Prop := Claim7.holds Tryz.pinned (.plain (OpenSpec.ofChange linePrintsSpec)) linePrintsCard

/-- THE TIED CARD OF 'guidewaytop.TopLineClear'. -/
def topLineClearCard : Claim7 := { stood := { row := topLineClearRow, standIns := [], harness := (true, "7c61980741f8760a4a30db39f2b131fc8481b149d51c61483fc3926ed51646dc"), looks := true }, kinds := [], alts := [], laidByText := true, laidKinds := [.data, .data, .data, .sentinel, .sentinel], laidTests := true, laidLooks := .later }
def TopLineClearCardSaid : Prop := Claim7.holds Tryz.pinned (.plain (OpenSpec.ofChange topLineClearSpec)) topLineClearCard

/-- THE SECOND FORM's CARD OF 'guidewaylaw01.LineParses'. -/
def lineParsesUptoCard : Claim7 := { stood := { row := lineParsesUptoRow, standIns := [], harness := (true, "7c61980741f8760a4a30db39f2b131fc8481b149d51c61483fc3926ed51646dc"), looks := true }, kinds := [], alts := [], laidByText := true, laidKinds := [.data, .data, .data, .sentinel, .sentinel], laidTests := true, laidLooks := .later }
def LineParsesUptoCardSaid : Prop := Claim7.holds Tryz.pinned (.plain (OpenSpec.upto lineParsesSpec)) lineParsesUptoCard

/-- THE SECOND FORM's CARD OF 'guidewaylaw01.LinePrints'. -/
def linePrintsUptoCard : Claim7 := { stood := { row := linePrintsUptoRow, standIns := [], harness := (true, "7c61980741f8760a4a30db39f2b131fc8481b149d51c61483fc3926ed51646dc"), looks := true }, kinds := [], alts := [], laidByText := true, laidKinds := [.data, .data, .data, .sentinel, .sentinel], laidTests := true, laidLooks := .later }
def LinePrintsUptoCardSaid : Prop := Claim7.holds Tryz.pinned (.plain (OpenSpec.upto linePrintsSpec)) linePrintsUptoCard

/-- THE SECOND FORM's CARD OF 'guidewaytop.TopLineClear'. -/
def topLineClearUptoCard : Claim7 := { stood := { row := topLineClearUptoRow, standIns := [], harness := (true, "7c61980741f8760a4a30db39f2b131fc8481b149d51c61483fc3926ed51646dc"), looks := true }, kinds := [], alts := [], laidByText := true, laidKinds := [.data, .data, .data, .sentinel, .sentinel], laidTests := true, laidLooks := .later }
def TopLineClearUptoCardSaid : Prop := Claim7.holds Tryz.pinned (.plain (OpenSpec.upto topLineClearSpec)) topLineClearUptoCard
end Rows
end Go.Proofs.YtbmlgmblfboigaaGreatDoor
