/-
  DERIVED. GIVEN WITH THE SEED: THE CARDS: each row of YtfoaiidcfkmneaaGreatDoorRows.lean that lists a variable, with what it lists TIED to the program's text (the seventh form; the later family's looks); each row that meets fmt, with fmt's text TOLD by the authors' own Lean function (tested against real Go, not proved from fmt's source: count such statements apart). THE CARD IS WHAT COUNTS. Prove the row's statement (the work); the ties are given (YtfoaiidcfkmneaaGreatDoorTie.lean); close each card by the builder's one call (the guide's Derived/Test/ToyasCard.lean, 'card_holds'). Laid BY PROGRAM, IN A SANDBOX (cutbox-door.mjs). By AI agents, Wed Nov 11 2026. No macro, syntax, notation, axiom, sorry.
-/
import Derived.Test.YtfoaiidcfkmneaaGreatDoorRows
import GoSem.ClaimSeven
namespace Go.Proofs.YtfoaiidcfkmneaaGreatDoor
namespace Rows

/-- THE TIED CARD OF 'guidewaylaw01.LineParses'. -/
def lineParsesCard : Claim7 := { stood := { row := lineParsesRow, standIns := [], harness := (true, "a8fe8dbf6aeb79cb791d08ea324d92c9dbe9bb6a2237dcd23d8cdcab00df2e41"), looks := true }, kinds := [], alts := [], laidByText := true, laidKinds := [.data, .data, .data, .sentinel, .sentinel], laidTests := true, laidLooks := .later }
def LineParsesCardSaid : Prop := Claim7.holds Tryz.pinned (.plain (OpenSpec.ofChange lineParsesSpec)) lineParsesCard

/-- THE SECOND FORM's CARD OF 'guidewaylaw01.LineParses'. -/
def lineParsesUptoCard : Claim7 := { stood := { row := lineParsesUptoRow, standIns := [], harness := (true, "a8fe8dbf6aeb79cb791d08ea324d92c9dbe9bb6a2237dcd23d8cdcab00df2e41"), looks := true }, kinds := [], alts := [], laidByText := true, laidKinds := [.data, .data, .data, .sentinel, .sentinel], laidTests := true, laidLooks := .later }
def LineParsesUptoCardSaid : Prop := Claim7.holds Tryz.pinned (.plain (OpenSpec.upto lineParsesSpec)) lineParsesUptoCard
end Rows
end Go.Proofs.YtfoaiidcfkmneaaGreatDoor
