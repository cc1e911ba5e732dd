/-
  DERIVED. GIVEN WITH THE SEED: THE CARDS: each row of YtgiiedpambimoaaDoorRows.lean that lists a variable, with what it lists TIED to the program's text (the seventh form; the later family's looks); each row that meets fmt, with fmt's text TOLD by the authors' own Lean function (tested against real Go, not proved from fmt's source: count such statements apart). THE CARD IS WHAT COUNTS. Prove the row's statement (the work); the ties are given (YtgiiedpambimoaaDoorTie.lean); close each card by the builder's one call (the guide's Derived/Test/ToyasCard.lean, 'card_holds'). Laid BY PROGRAM, IN A SANDBOX (cutbox-door.mjs). By AI agents, Wed Nov 11 2026. No macro, syntax, notation, axiom, sorry.
-/
import Derived.Test.YtgiiedpambimoaaDoorRows
import GoSem.ClaimSeven
namespace Go.Proofs.YtgiiedpambimoaaDoor
namespace Rows

/-- THE TIED CARD OF 'guidewaylaw03.StatorOrders'. -/
def statorOrdersCard : Claim7 := { stood := { row := statorOrdersRow, standIns := [], harness := (true, "144aa988f30f766e1157bd081e98a774e70b4ae119d187c8d7f25ff4f46b1120"), looks := true }, kinds := [], alts := [], laidByText := true, laidKinds := [.wider, .data], laidTests := true, laidLooks := .later }
def StatorOrdersCardSaid : Prop := Claim7.holds Tryd.pinned (.plain (OpenSpec.ofChange statorOrdersSpec)) statorOrdersCard

/-- THE TIED CARD OF 'guidewaylaw03.StatorHarmonics'. -/
def statorHarmonicsCard : Claim7 := { stood := { row := statorHarmonicsRow, standIns := [], harness := (true, "144aa988f30f766e1157bd081e98a774e70b4ae119d187c8d7f25ff4f46b1120"), looks := true }, kinds := [], alts := [], laidByText := true, laidKinds := [.wider, .data], laidTests := true, laidLooks := .later }
def StatorHarmonicsCardSaid : Prop := Claim7.holds Tryd.pinned (.plain (OpenSpec.ofChange statorHarmonicsSpec)) statorHarmonicsCard

/-- THE TIED CARD OF 'guidewaytop.TopStatorPulsesDrive'. -/
def topStatorPulsesDriveCard : Claim7 := { stood := { row := topStatorPulsesDriveRow, standIns := [], harness := (true, "144aa988f30f766e1157bd081e98a774e70b4ae119d187c8d7f25ff4f46b1120"), looks := true }, kinds := [], alts := [], laidByText := true, laidKinds := [.data], laidTests := true, laidLooks := .later }
def TopStatorPulsesDriveCardSaid : Prop := Claim7.holds Tryd.pinned (.plain (OpenSpec.ofChange topStatorPulsesDriveSpec)) topStatorPulsesDriveCard

/-- THE TIED CARD OF 'guidewaytop.TopStatorNoStep'. -/
def topStatorNoStepCard : Claim7 := { stood := { row := topStatorNoStepRow, standIns := [], harness := (true, "144aa988f30f766e1157bd081e98a774e70b4ae119d187c8d7f25ff4f46b1120"), looks := true }, kinds := [], alts := [], laidByText := true, laidKinds := [.data], laidTests := true, laidLooks := .later }
def TopStatorNoStepCardSaid : Prop := Claim7.holds Tryd.pinned (.plain (OpenSpec.ofChange topStatorNoStepSpec)) topStatorNoStepCard

/-- THE TIED CARD OF 'guidewaylaw03.StatorTexts'. -/
def statorTextsCard : Claim7 := { stood := { row := statorTextsRow, standIns := [], harness := (true, "144aa988f30f766e1157bd081e98a774e70b4ae119d187c8d7f25ff4f46b1120"), looks := true }, kinds := [], alts := [], laidByText := true, laidKinds := [.data, .data, .data, .sentinel, .sentinel, .data], laidTests := true, laidLooks := .later }
def StatorTextsCardSaid : Prop := Claim7.holds Tryd.pinned (.plain (OpenSpec.ofChange statorTextsSpec)) statorTextsCard

/-- THE TIED CARD OF 'guidewaylaw05.BrakeRunTexts'. -/
def brakeRunTextsCard : Claim7 := { stood := { row := brakeRunTextsRow, standIns := [], harness := (true, "144aa988f30f766e1157bd081e98a774e70b4ae119d187c8d7f25ff4f46b1120"), looks := true }, kinds := [], alts := [], laidByText := true, laidKinds := [.data, .data, .data, .sentinel, .sentinel], laidTests := true, laidLooks := .later }
def BrakeRunTextsCardSaid : Prop := Claim7.holds Tryd.pinned (.plain (OpenSpec.ofChange brakeRunTextsSpec)) brakeRunTextsCard

/-- THE SECOND FORM's CARD OF 'guidewaylaw03.StatorOrders'. -/
def statorOrdersUptoCard : Claim7 := { stood := { row := statorOrdersUptoRow, standIns := [], harness := (true, "144aa988f30f766e1157bd081e98a774e70b4ae119d187c8d7f25ff4f46b1120"), looks := true }, kinds := [], alts := [], laidByText := true, laidKinds := [.wider, .data], laidTests := true, laidLooks := .later }
def StatorOrdersUptoCardSaid : Prop := Claim7.holds Tryd.pinned (.plain (OpenSpec.upto statorOrdersSpec)) statorOrdersUptoCard

/-- THE SECOND FORM's CARD OF 'guidewaylaw03.StatorHarmonics'. -/
def statorHarmonicsUptoCard : Claim7 := { stood := { row := statorHarmonicsUptoRow, standIns := [], harness := (true, "144aa988f30f766e1157bd081e98a774e70b4ae119d187c8d7f25ff4f46b1120"), looks := true }, kinds := [], alts := [], laidByText := true, laidKinds := [.wider, .data], laidTests := true, laidLooks := .later }
def StatorHarmonicsUptoCardSaid : Prop := Claim7.holds Tryd.pinned (.plain (OpenSpec.upto statorHarmonicsSpec)) statorHarmonicsUptoCard

/-- THE SECOND FORM's CARD OF 'guidewaytop.TopStatorPulsesDrive'. -/
def topStatorPulsesDriveUptoCard : Claim7 := { stood := { row := topStatorPulsesDriveUptoRow, standIns := [], harness := (true, "144aa988f30f766e1157bd081e98a774e70b4ae119d187c8d7f25ff4f46b1120"), looks := true }, kinds := [], alts := [], laidByText := true, laidKinds := [.data], laidTests := true, laidLooks := .later }
def TopStatorPulsesDriveUptoCardSaid : Prop := Claim7.holds Tryd.pinned (.plain (OpenSpec.upto topStatorPulsesDriveSpec)) topStatorPulsesDriveUptoCard

/-- THE SECOND FORM's CARD OF 'guidewaytop.TopStatorNoStep'. -/
def topStatorNoStepUptoCard : Claim7 := { stood := { row := topStatorNoStepUptoRow, standIns := [], harness := (true, "144aa988f30f766e1157bd081e98a774e70b4ae119d187c8d7f25ff4f46b1120"), looks := true }, kinds := [], alts := [], laidByText := true, laidKinds := [.data], laidTests := true, laidLooks := .later }
def TopStatorNoStepUptoCardSaid : Prop := Claim7.holds Tryd.pinned (.plain (OpenSpec.upto topStatorNoStepSpec)) topStatorNoStepUptoCard

/-- THE SECOND FORM's CARD OF 'guidewaylaw03.StatorTexts'. -/
def statorTextsUptoCard : Claim7 := { stood := { row := statorTextsUptoRow, standIns := [], harness := (true, "144aa988f30f766e1157bd081e98a774e70b4ae119d187c8d7f25ff4f46b1120"), looks := true }, kinds := [], alts := [], laidByText := true, laidKinds := [.data, .data, .data, .sentinel, .sentinel, .data], laidTests := true, laidLooks := .later }
def StatorTextsUptoCardSaid : Prop := Claim7.holds Tryd.pinned (.plain (OpenSpec.upto statorTextsSpec)) statorTextsUptoCard

/-- THE SECOND FORM's CARD OF 'guidewaylaw05.BrakeRunTexts'. -/
def brakeRunTextsUptoCard : Claim7 := { stood := { row := brakeRunTextsUptoRow, standIns := [], harness := (true, "144aa988f30f766e1157bd081e98a774e70b4ae119d187c8d7f25ff4f46b1120"), looks := true }, kinds := [], alts := [], laidByText := true, laidKinds := [.data, .data, .data, .sentinel, .sentinel], laidTests := true, laidLooks := .later }
def BrakeRunTextsUptoCardSaid : Prop := Claim7.holds Tryd.pinned (.plain (OpenSpec.upto brakeRunTextsSpec)) brakeRunTextsUptoCard
end Rows
end Go.Proofs.YtgiiedpambimoaaDoor
