/-
  DERIVED. GIVEN WITH THE SEED: THE CARDS: each row of YtfmjmngkgmlghaaDoorRows.lean that lists a variable, with what it lists TIED to the program's text (the seventh form; the later family's looks); each row that meets fmt, with fmt's text TOLD by the authors' own Lean function (tested against real Go, not proved from fmt's source: count such statements apart). THE CARD IS WHAT COUNTS. Prove the row's statement (the work); the ties are given (YtfmjmngkgmlghaaDoorTie.lean); close each card by the builder's one call (the guide's Derived/Test/ToyasCard.lean, 'card_holds'). Laid BY PROGRAM, IN A SANDBOX (cutbox-door.mjs). By AI agents, Wed Nov 11 2026. No macro, syntax, notation, axiom, sorry.
-/
import Derived.Test.YtfmjmngkgmlghaaDoorRows
import GoSem.ClaimSeven
namespace Go.Proofs.YtfmjmngkgmlghaaDoor
namespace Rows

/-- THE TIED CARD OF 'guidewaylaw03.StatorTexts'. -/
def statorTextsCard : Claim7 := { stood := { row := statorTextsRow, standIns := [], harness := (true, "4d170740ff679b228386ba5f61bcdd0bb8bc8dc7486361f85a31da2aca9b1708"), looks := true }, kinds := [], alts := [], laidByText := true, laidKinds := [.data, .data, .data, .sentinel, .sentinel, .data], laidTests := true, laidLooks := .later }
def StatorTextsCardSaid : Prop := Claim7.holds Tryd.pinned (.plain (OpenSpec.ofChange statorTextsSpec)) statorTextsCard

/-- THE TIED CARD OF 'guidewaylaw05.BrakeRunTexts'. -/
def brakeRunTextsCard : Claim7 := { stood := { row := brakeRunTextsRow, standIns := [], harness := (true, "4d170740ff679b228386ba5f61bcdd0bb8bc8dc7486361f85a31da2aca9b1708"), looks := true }, kinds := [], alts := [], laidByText := true, laidKinds := [.data, .data, .data, .sentinel, .sentinel], laidTests := true, laidLooks := .later }
def BrakeRunTextsCardSaid : Prop := Claim7.holds Tryd.pinned (.plain (OpenSpec.ofChange brakeRunTextsSpec)) brakeRunTextsCard

/-- THE SECOND FORM's CARD OF 'guidewaylaw03.StatorTexts'. -/
def statorTextsUptoCard : Claim7 := { stood := { row := statorTextsUptoRow, standIns := [], harness := (true, "4d170740ff679b228386ba5f61bcdd0bb8bc8dc7486361f85a31da2aca9b1708"), looks := true }, kinds := [], alts := [], laidByText := true, laidKinds := [.data, .data, .data, .sentinel, .sentinel, .data], laidTests := true, laidLooks := .later }
def StatorTextsUptoCardSaid : Prop := Claim7.holds Tryd.pinned (.plain (OpenSpec.upto statorTextsSpec)) statorTextsUptoCard

/-- THE SECOND FORM's CARD OF 'guidewaylaw05.BrakeRunTexts'. -/
def brakeRunTextsUptoCard : Claim7 := { stood := { row := brakeRunTextsUptoRow, standIns := [], harness := (true, "4d170740ff679b228386ba5f61bcdd0bb8bc8dc7486361f85a31da2aca9b1708"), looks := true }, kinds := [], alts := [], laidByText := true, laidKinds := [.data, .data, .data, .sentinel, .sentinel], laidTests := true, laidLooks := .later }
def BrakeRunTextsUptoCardSaid : Prop := Claim7.holds Tryd.pinned (.plain (OpenSpec.upto brakeRunTextsSpec)) brakeRunTextsUptoCard
end Rows
end Go.Proofs.YtfmjmngkgmlghaaDoor
