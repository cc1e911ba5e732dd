/-
  DERIVED. GIVEN WITH THE SEED: THE CARDS: each row of YtdbglpaejmhbjaaDoorRows.lean that lists a variable, with what it lists TIED to the program's text (the seventh form; the later family's looks); each row that meets fmt, with fmt's text TOLD by the authors' own Lean function (tested against real Go, not proved from fmt's source: count such statements apart). THE CARD IS WHAT COUNTS. Prove the row's statement (the work); the ties are given (YtdbglpaejmhbjaaDoorTie.lean); close each card by the builder's one call (the guide's Derived/Test/ToyasCard.lean, 'card_holds'). Laid BY PROGRAM, IN A SANDBOX (cutbox-door.mjs). By AI agents, Wed Nov 11 2026. No macro, syntax, notation, axiom, sorry.
-/
import Derived.Test.YtdbglpaejmhbjaaDoorRows
import GoSem.ClaimSeven
namespace Go.Proofs.YtdbglpaejmhbjaaDoor
namespace Rows

/-- THE TIED CARD OF 'guidewaylaw03.StatorEven'. -/
def statorEvenCard : Claim7 := { stood := { row := statorEvenRow, standIns := [], harness := (true, "fb5f17a377a7197358b25b6b910c18d1774d86fb0a7aac78d105946f3f159e32"), looks := false }, kinds := [], alts := [], laidByText := true, laidKinds := [.data], laidTests := true, laidLooks := .later }
def StatorEvenCardSaid : Prop := Claim7.holds Tryd.pinned (.plain (OpenSpec.ofChange statorEvenSpec)) statorEvenCard

/-- THE TIED CARD OF 'guidewaylaw03.StatorTurns'. -/
def statorTurnsCard : Claim7 := { stood := { row := statorTurnsRow, standIns := [], harness := (true, "fb5f17a377a7197358b25b6b910c18d1774d86fb0a7aac78d105946f3f159e32"), looks := false }, kinds := [], alts := [], laidByText := true, laidKinds := [.data], laidTests := true, laidLooks := .later }
def StatorTurnsCardSaid : Prop := Claim7.holds Tryd.pinned (.plain (OpenSpec.ofChange statorTurnsSpec)) statorTurnsCard

/-- THE TIED CARD OF 'guidewaylaw03.StatorTracks'. -/
def statorTracksCard : Claim7 := { stood := { row := statorTracksRow, standIns := [], harness := (true, "fb5f17a377a7197358b25b6b910c18d1774d86fb0a7aac78d105946f3f159e32"), looks := false }, kinds := [], alts := [], laidByText := true, laidKinds := [.data], laidTests := true, laidLooks := .later }
def StatorTracksCardSaid : Prop := Claim7.holds Tryd.pinned (.plain (OpenSpec.ofChange statorTracksSpec)) statorTracksCard

/-- THE TIED CARD OF 'guidewaylaw03.StatorRest'. -/
def statorRestCard : Claim7 := { stood := { row := statorRestRow, standIns := [], harness := (true, "fb5f17a377a7197358b25b6b910c18d1774d86fb0a7aac78d105946f3f159e32"), looks := false }, kinds := [], alts := [], laidByText := true, laidKinds := [.data], laidTests := true, laidLooks := .later }
def StatorRestCardSaid : Prop := Claim7.holds Tryd.pinned (.plain (OpenSpec.ofChange statorRestSpec)) statorRestCard

/-- THE TIED CARD OF 'guidewaylaw03.StatorOnTrack'. -/
def statorOnTrackCard : Claim7 := { stood := { row := statorOnTrackRow, standIns := [], harness := (true, "fb5f17a377a7197358b25b6b910c18d1774d86fb0a7aac78d105946f3f159e32"), looks := false }, kinds := [], alts := [], laidByText := true, laidKinds := [.data], laidTests := true, laidLooks := .later }
def StatorOnTrackCardSaid : Prop := Claim7.holds Tryd.pinned (.plain (OpenSpec.ofChange statorOnTrackSpec)) statorOnTrackCard

/-- THE TIED CARD OF 'guidewaylaw03.StatorChanges'. -/
def statorChangesCard : Claim7 := { stood := { row := statorChangesRow, standIns := [], harness := (true, "fb5f17a377a7197358b25b6b910c18d1774d86fb0a7aac78d105946f3f159e32"), looks := false }, kinds := [], alts := [], laidByText := true, laidKinds := [.data], laidTests := true, laidLooks := .later }
def StatorChangesCardSaid : Prop := Claim7.holds Tryd.pinned (.plain (OpenSpec.ofChange statorChangesSpec)) statorChangesCard

/-- THE TIED CARD OF 'guidewaylaw03.StatorForces'. -/
def statorForcesCard : Claim7 := { stood := { row := statorForcesRow, standIns := [], harness := (true, "fb5f17a377a7197358b25b6b910c18d1774d86fb0a7aac78d105946f3f159e32"), looks := false }, kinds := [], alts := [], laidByText := true, laidKinds := [.data], laidTests := true, laidLooks := .later }
def StatorForcesCardSaid : Prop := Claim7.holds Tryd.pinned (.plain (OpenSpec.ofChange statorForcesSpec)) statorForcesCard

/-- THE TIED CARD OF 'guidewaylaw03.StatorBoth'. -/
def statorBothCard : Claim7 := { stood := { row := statorBothRow, standIns := [], harness := (true, "fb5f17a377a7197358b25b6b910c18d1774d86fb0a7aac78d105946f3f159e32"), looks := false }, kinds := [], alts := [], laidByText := true, laidKinds := [.data], laidTests := true, laidLooks := .later }
def StatorBothCardSaid : Prop := Claim7.holds Tryd.pinned (.plain (OpenSpec.ofChange statorBothSpec)) statorBothCard

/-- THE TIED CARD OF 'guidewaylaw03.StatorStates'. -/
def statorStatesCard : Claim7 := { stood := { row := statorStatesRow, standIns := [], harness := (true, "fb5f17a377a7197358b25b6b910c18d1774d86fb0a7aac78d105946f3f159e32"), looks := false }, kinds := [], alts := [], laidByText := true, laidKinds := [.data], laidTests := true, laidLooks := .later }
def StatorStatesCardSaid : Prop := Claim7.holds Tryd.pinned (.plain (OpenSpec.ofChange statorStatesSpec)) statorStatesCard

/-- THE TIED CARD OF 'guidewaylaw03.StatorNoStep'. -/
def statorNoStepCard : Claim7 := { stood := { row := statorNoStepRow, standIns := [], harness := (true, "fb5f17a377a7197358b25b6b910c18d1774d86fb0a7aac78d105946f3f159e32"), looks := false }, kinds := [], alts := [], laidByText := true, laidKinds := [.data], laidTests := true, laidLooks := .later }
def StatorNoStepCardSaid : Prop := Claim7.holds Tryd.pinned (.plain (OpenSpec.ofChange statorNoStepSpec)) statorNoStepCard

/-- THE TIED CARD OF 'guidewaylaw03.StatorBooks'. -/
def statorBooksCard : Claim7 := { stood := { row := statorBooksRow, standIns := [], harness := (true, "fb5f17a377a7197358b25b6b910c18d1774d86fb0a7aac78d105946f3f159e32"), looks := false }, kinds := [], alts := [], laidByText := true, laidKinds := [.data], laidTests := true, laidLooks := .later }
def StatorBooksCardSaid : Prop := Claim7.holds Tryd.pinned (.plain (OpenSpec.ofChange statorBooksSpec)) statorBooksCard

/-- THE TIED CARD OF 'guidewaylaw03.StatorVectors'. -/
def statorVectorsCard : Claim7 := { stood := { row := statorVectorsRow, standIns := [], harness := (true, "fb5f17a377a7197358b25b6b910c18d1774d86fb0a7aac78d105946f3f159e32"), looks := false }, kinds := [], alts := [], laidByText := true, laidKinds := [.data], laidTests := true, laidLooks := .later }
def StatorVectorsCardSaid : Prop := Claim7.holds Tryd.pinned (.plain (OpenSpec.ofChange statorVectorsSpec)) statorVectorsCard

/-- THE SECOND FORM's CARD OF 'guidewaylaw03.StatorEven'. -/
def statorEvenUptoCard : Claim7 := { stood := { row := statorEvenUptoRow, standIns := [], harness := (true, "fb5f17a377a7197358b25b6b910c18d1774d86fb0a7aac78d105946f3f159e32"), looks := false }, kinds := [], alts := [], laidByText := true, laidKinds := [.data], laidTests := true, laidLooks := .later }
def StatorEvenUptoCardSaid : Prop := Claim7.holds Tryd.pinned (.plain (OpenSpec.upto statorEvenSpec)) statorEvenUptoCard

/-- THE SECOND FORM's CARD OF 'guidewaylaw03.StatorTurns'. -/
def statorTurnsUptoCard : Claim7 := { stood := { row := statorTurnsUptoRow, standIns := [], harness := (true, "fb5f17a377a7197358b25b6b910c18d1774d86fb0a7aac78d105946f3f159e32"), looks := false }, kinds := [], alts := [], laidByText := true, laidKinds := [.data], laidTests := true, laidLooks := .later }
def StatorTurnsUptoCardSaid : Prop := Claim7.holds Tryd.pinned (.plain (OpenSpec.upto statorTurnsSpec)) statorTurnsUptoCard

/-- THE SECOND FORM's CARD OF 'guidewaylaw03.StatorTracks'. -/
def statorTracksUptoCard : Claim7 := { stood := { row := statorTracksUptoRow, standIns := [], harness := (true, "fb5f17a377a7197358b25b6b910c18d1774d86fb0a7aac78d105946f3f159e32"), looks := false }, kinds := [], alts := [], laidByText := true, laidKinds := [.data], laidTests := true, laidLooks := .later }
def StatorTracksUptoCardSaid : Prop := Claim7.holds Tryd.pinned (.plain (OpenSpec.upto statorTracksSpec)) statorTracksUptoCard

/-- THE SECOND FORM's CARD OF 'guidewaylaw03.StatorRest'. -/
def statorRestUptoCard : Claim7 := { stood := { row := statorRestUptoRow, standIns := [], harness := (true, "fb5f17a377a7197358b25b6b910c18d1774d86fb0a7aac78d105946f3f159e32"), looks := false }, kinds := [], alts := [], laidByText := true, laidKinds := [.data], laidTests := true, laidLooks := .later }
def StatorRestUptoCardSaid : Prop := Claim7.holds Tryd.pinned (.plain (OpenSpec.upto statorRestSpec)) statorRestUptoCard

/-- THE SECOND FORM's CARD OF 'guidewaylaw03.StatorOnTrack'. -/
def statorOnTrackUptoCard : Claim7 := { stood := { row := statorOnTrackUptoRow, standIns := [], harness := (true, "fb5f17a377a7197358b25b6b910c18d1774d86fb0a7aac78d105946f3f159e32"), looks := false }, kinds := [], alts := [], laidByText := true, laidKinds := [.data], laidTests := true, laidLooks := .later }
def StatorOnTrackUptoCardSaid : Prop := Claim7.holds Tryd.pinned (.plain (OpenSpec.upto statorOnTrackSpec)) statorOnTrackUptoCard

/-- THE SECOND FORM's CARD OF 'guidewaylaw03.StatorChanges'. -/
def statorChangesUptoCard : Claim7 := { stood := { row := statorChangesUptoRow, standIns := [], harness := (true, "fb5f17a377a7197358b25b6b910c18d1774d86fb0a7aac78d105946f3f159e32"), looks := false }, kinds := [], alts := [], laidByText := true, laidKinds := [.data], laidTests := true, laidLooks := .later }
def StatorChangesUptoCardSaid : Prop := Claim7.holds Tryd.pinned (.plain (OpenSpec.upto statorChangesSpec)) statorChangesUptoCard

/-- THE SECOND FORM's CARD OF 'guidewaylaw03.StatorForces'. -/
def statorForcesUptoCard : Claim7 := { stood := { row := statorForcesUptoRow, standIns := [], harness := (true, "fb5f17a377a7197358b25b6b910c18d1774d86fb0a7aac78d105946f3f159e32"), looks := false }, kinds := [], alts := [], laidByText := true, laidKinds := [.data], laidTests := true, laidLooks := .later }
def StatorForcesUptoCardSaid : Prop := Claim7.holds Tryd.pinned (.plain (OpenSpec.upto statorForcesSpec)) statorForcesUptoCard

/-- THE SECOND FORM's CARD OF 'guidewaylaw03.StatorBoth'. -/
def statorBothUptoCard : Claim7 := { stood := { row := statorBothUptoRow, standIns := [], harness := (true, "fb5f17a377a7197358b25b6b910c18d1774d86fb0a7aac78d105946f3f159e32"), looks := false }, kinds := [], alts := [], laidByText := true, laidKinds := [.data], laidTests := true, laidLooks := .later }
def StatorBothUptoCardSaid : Prop := Claim7.holds Tryd.pinned (.plain (OpenSpec.upto statorBothSpec)) statorBothUptoCard

/-- THE SECOND FORM's CARD OF 'guidewaylaw03.StatorStates'. -/
def statorStatesUptoCard : Claim7 := { stood := { row := statorStatesUptoRow, standIns := [], harness := (true, "fb5f17a377a7197358b25b6b910c18d1774d86fb0a7aac78d105946f3f159e32"), looks := false }, kinds := [], alts := [], laidByText := true, laidKinds := [.data], laidTests := true, laidLooks := .later }
def StatorStatesUptoCardSaid : Prop := Claim7.holds Tryd.pinned (.plain (OpenSpec.upto statorStatesSpec)) statorStatesUptoCard

/-- THE SECOND FORM's CARD OF 'guidewaylaw03.StatorNoStep'. -/
def statorNoStepUptoCard : Claim7 := { stood := { row := statorNoStepUptoRow, standIns := [], harness := (true, "fb5f17a377a7197358b25b6b910c18d1774d86fb0a7aac78d105946f3f159e32"), looks := false }, kinds := [], alts := [], laidByText := true, laidKinds := [.data], laidTests := true, laidLooks := .later }
def StatorNoStepUptoCardSaid : Prop := Claim7.holds Tryd.pinned (.plain (OpenSpec.upto statorNoStepSpec)) statorNoStepUptoCard

/-- THE SECOND FORM's CARD OF 'guidewaylaw03.StatorBooks'. -/
def statorBooksUptoCard : Claim7 := { stood := { row := statorBooksUptoRow, standIns := [], harness := (true, "fb5f17a377a7197358b25b6b910c18d1774d86fb0a7aac78d105946f3f159e32"), looks := false }, kinds := [], alts := [], laidByText := true, laidKinds := [.data], laidTests := true, laidLooks := .later }
def StatorBooksUptoCardSaid : Prop := Claim7.holds Tryd.pinned (.plain (OpenSpec.upto statorBooksSpec)) statorBooksUptoCard

/-- THE SECOND FORM's CARD OF 'guidewaylaw03.StatorVectors'. -/
def statorVectorsUptoCard : Claim7 := { stood := { row := statorVectorsUptoRow, standIns := [], harness := (true, "fb5f17a377a7197358b25b6b910c18d1774d86fb0a7aac78d105946f3f159e32"), looks := false }, kinds := [], alts := [], laidByText := true, laidKinds := [.data], laidTests := true, laidLooks := .later }
def StatorVectorsUptoCardSaid : Prop := Claim7.holds Tryd.pinned (.plain (OpenSpec.upto statorVectorsSpec)) statorVectorsUptoCard
end Rows
end Go.Proofs.YtdbglpaejmhbjaaDoor
