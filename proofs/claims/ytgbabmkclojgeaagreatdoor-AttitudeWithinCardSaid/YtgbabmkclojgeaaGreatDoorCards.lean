/-
  DERIVED. GIVEN WITH THE SEED: THE CARDS: each row of YtgbabmkclojgeaaGreatDoorRows.lean that lists a variable, with what it lists TIED to the program's text (the seventh form; the later family's looks); each row that meets fmt, with fmt's text TOLD by the authors' own Lean function (tested against real Go, not proved from fmt's source: count such statements apart). THE CARD IS WHAT COUNTS. Prove the row's statement (the work); the ties are given (YtgbabmkclojgeaaGreatDoorTie.lean); close each card by the builder's one call (the guide's Derived/Test/ToyasCard.lean, 'card_holds'). Laid BY PROGRAM, IN A SANDBOX (cutbox-door.mjs). By AI agents, Wed Nov 11 2026. No macro, syntax, notation, axiom, sorry.
-/
import Derived.Test.YtgbabmkclojgeaaGreatDoorRows
import GoSem.ClaimSeven
namespace Go.Proofs.YtgbabmkclojgeaaGreatDoor
namespace Rows

/-- THE TIED CARD OF 'garboardlaw16.AttitudeUnit'. -/
def attitudeUnitCard : Claim7 := { stood := { row := attitudeUnitRow, standIns := [], harness := (true, "f6834b59d3a32dc1caebcdd56e5cc166c0610937adb86b9103e646233883aa4a"), looks := true }, kinds := [], alts := [], laidByText := true, laidKinds := [.data, .data, .data, .sentinel, .sentinel], laidTests := true, laidLooks := .later }
def AttitudeUnitCardSaid : Prop := Claim7.holds Tryz.pinned (.plain (OpenSpec.ofChange attitudeUnitSpec)) attitudeUnitCard

/-- THE TIED CARD OF 'garboardlaw11.VectorComputes'. -/
def vectorComputesCard : Claim7 := { stood := { row := vectorComputesRow, standIns := [], harness := (true, "f6834b59d3a32dc1caebcdd56e5cc166c0610937adb86b9103e646233883aa4a"), looks := true }, kinds := [], alts := [], laidByText := true, laidKinds := [.data, .data, .data, .sentinel, .sentinel], laidTests := true, laidLooks := .later }
def VectorComputesCardSaid : Prop := Claim7.holds Tryz.pinned (.plain (OpenSpec.ofChange vectorComputesSpec)) vectorComputesCard

/-- THE TIED CARD OF 'garboardlaw11.VectorPlanes'. -/
def vectorPlanesCard : Claim7 := { stood := { row := vectorPlanesRow, standIns := [], harness := (true, "f6834b59d3a32dc1caebcdd56e5cc166c0610937adb86b9103e646233883aa4a"), looks := true }, kinds := [], alts := [], laidByText := true, laidKinds := [.data, .data, .data, .sentinel, .sentinel], laidTests := true, laidLooks := .later }
def VectorPlanesCardSaid : Prop := Claim7.holds Tryz.pinned (.plain (OpenSpec.ofChange vectorPlanesSpec)) vectorPlanesCard

/-- THE TIED CARD OF 'garboardlaw16.AttitudeMirrors'. -/
def attitudeMirrorsCard : Claim7 := { stood := { row := attitudeMirrorsRow, standIns := [], harness := (true, "f6834b59d3a32dc1caebcdd56e5cc166c0610937adb86b9103e646233883aa4a"), looks := true }, kinds := [], alts := [], laidByText := true, laidKinds := [.data, .data, .data, .sentinel, .sentinel], laidTests := true, laidLooks := .later }
def AttitudeMirrorsCardSaid : Prop := Claim7.holds Tryz.pinned (.plain (OpenSpec.ofChange attitudeMirrorsSpec)) attitudeMirrorsCard

/-- THE TIED CARD OF 'garboardlaw11.VectorRanges'. -/
def vectorRangesCard : Claim7 := { stood := { row := vectorRangesRow, standIns := [], harness := (true, "f6834b59d3a32dc1caebcdd56e5cc166c0610937adb86b9103e646233883aa4a"), looks := true }, kinds := [], alts := [], laidByText := true, laidKinds := [.data, .data, .data, .sentinel, .sentinel], laidTests := true, laidLooks := .later }
def VectorRangesCardSaid : Prop := Claim7.holds Tryz.pinned (.plain (OpenSpec.ofChange vectorRangesSpec)) vectorRangesCard

/-- THE TIED CARD OF 'garboardlaw16.AttitudeFrames'. -/
def attitudeFramesCard : Claim7 := { stood := { row := attitudeFramesRow, standIns := [], harness := (true, "f6834b59d3a32dc1caebcdd56e5cc166c0610937adb86b9103e646233883aa4a"), looks := true }, kinds := [], alts := [], laidByText := true, laidKinds := [.data, .data, .data, .sentinel, .sentinel], laidTests := true, laidLooks := .later }
def AttitudeFramesCardSaid : Prop := Claim7.holds Tryz.pinned (.plain (OpenSpec.ofChange attitudeFramesSpec)) attitudeFramesCard

/-- THE TIED CARD OF 'garboardlaw16.AttitudeTurns'. -/
def attitudeTurnsCard : Claim7 := { stood := { row := attitudeTurnsRow, standIns := [], harness := (true, "f6834b59d3a32dc1caebcdd56e5cc166c0610937adb86b9103e646233883aa4a"), looks := true }, kinds := [], alts := [], laidByText := true, laidKinds := [.data, .data, .data, .sentinel, .sentinel], laidTests := true, laidLooks := .later }
def AttitudeTurnsCardSaid : Prop := Claim7.holds Tryz.pinned (.plain (OpenSpec.ofChange attitudeTurnsSpec)) attitudeTurnsCard

/-- THE TIED CARD OF 'garboardlaw16.AttitudeReturns'. -/
def attitudeReturnsCard : Claim7 := { stood := { row := attitudeReturnsRow, standIns := [], harness := (true, "f6834b59d3a32dc1caebcdd56e5cc166c0610937adb86b9103e646233883aa4a"), looks := true }, kinds := [], alts := [], laidByText := true, laidKinds := [.data, .data, .data, .sentinel, .sentinel], laidTests := true, laidLooks := .later }
def AttitudeReturnsCardSaid : Prop := Claim7.holds Tryz.pinned (.plain (OpenSpec.ofChange attitudeReturnsSpec)) attitudeReturnsCard

/-- THE TIED CARD OF 'garboardlaw16.AttitudeExtents'. -/
def attitudeExtentsCard : Claim7 := { stood := { row := attitudeExtentsRow, standIns := [], harness := (true, "f6834b59d3a32dc1caebcdd56e5cc166c0610937adb86b9103e646233883aa4a"), looks := true }, kinds := [], alts := [], laidByText := true, laidKinds := [.data, .data, .data, .sentinel, .sentinel], laidTests := true, laidLooks := .later }
def AttitudeExtentsCardSaid : Prop := Claim7.holds Tryz.pinned (.plain (OpenSpec.ofChange attitudeExtentsSpec)) attitudeExtentsCard

/-- THE TIED CARD OF 'garboardlaw16.AttitudeWithin'. -/
def attitudeWithinCard : Claim7 := { stood := { row := attitudeWithinRow, standIns := [], harness := (true, "f6834b59d3a32dc1caebcdd56e5cc166c0610937adb86b9103e646233883aa4a"), looks := true }, kinds := [], alts := [], laidByText := true, laidKinds := [.data, .data, .data, .sentinel, .sentinel], laidTests := true, laidLooks := .later }
def AttitudeWithinCardSaid : Prop := Claim7.holds Tryz.pinned (.plain (OpenSpec.ofChange attitudeWithinSpec)) attitudeWithinCard

/-- THE SECOND FORM's CARD OF 'garboardlaw16.AttitudeUnit'. -/
def attitudeUnitUptoCard : Claim7 := { stood := { row := attitudeUnitUptoRow, standIns := [], harness := (true, "f6834b59d3a32dc1caebcdd56e5cc166c0610937adb86b9103e646233883aa4a"), looks := true }, kinds := [], alts := [], laidByText := true, laidKinds := [.data, .data, .data, .sentinel, .sentinel], laidTests := true, laidLooks := .later }
def AttitudeUnitUptoCardSaid : Prop := Claim7.holds Tryz.pinned (.plain (OpenSpec.upto attitudeUnitSpec)) attitudeUnitUptoCard

/-- THE SECOND FORM's CARD OF 'garboardlaw11.VectorComputes'. -/
def vectorComputesUptoCard : Claim7 := { stood := { row := vectorComputesUptoRow, standIns := [], harness := (true, "f6834b59d3a32dc1caebcdd56e5cc166c0610937adb86b9103e646233883aa4a"), looks := true }, kinds := [], alts := [], laidByText := true, laidKinds := [.data, .data, .data, .sentinel, .sentinel], laidTests := true, laidLooks := .later }
def VectorComputesUptoCardSaid : Prop := Claim7.holds Tryz.pinned (.plain (OpenSpec.upto vectorComputesSpec)) vectorComputesUptoCard

/-- THE SECOND FORM's CARD OF 'garboardlaw11.VectorPlanes'. -/
def vectorPlanesUptoCard : Claim7 := { stood := { row := vectorPlanesUptoRow, standIns := [], harness := (true, "f6834b59d3a32dc1caebcdd56e5cc166c0610937adb86b9103e646233883aa4a"), looks := true }, kinds := [], alts := [], laidByText := true, laidKinds := [.data, .data, .data, .sentinel, .sentinel], laidTests := true, laidLooks := .later }
def VectorPlanesUptoCardSaid : Prop := Claim7.holds Tryz.pinned (.plain (OpenSpec.upto vectorPlanesSpec)) vectorPlanesUptoCard

/-- THE SECOND FORM's CARD OF 'garboardlaw16.AttitudeMirrors'. -/
def attitudeMirrorsUptoCard : Claim7 := { stood := { row := attitudeMirrorsUptoRow, standIns := [], harness := (true, "f6834b59d3a32dc1caebcdd56e5cc166c0610937adb86b9103e646233883aa4a"), looks := true }, kinds := [], alts := [], laidByText := true, laidKinds := [.data, .data, .data, .sentinel, .sentinel], laidTests := true, laidLooks := .later }
def AttitudeMirrorsUptoCardSaid : Prop := Claim7.holds Tryz.pinned (.plain (OpenSpec.upto attitudeMirrorsSpec)) attitudeMirrorsUptoCard

/-- THE SECOND FORM's CARD OF 'garboardlaw11.VectorRanges'. -/
def vectorRangesUptoCard : Claim7 := { stood := { row := vectorRangesUptoRow, standIns := [], harness := (true, "f6834b59d3a32dc1caebcdd56e5cc166c0610937adb86b9103e646233883aa4a"), looks := true }, kinds := [], alts := [], laidByText := true, laidKinds := [.data, .data, .data, .sentinel, .sentinel], laidTests := true, laidLooks := .later }
def VectorRangesUptoCardSaid : Prop := Claim7.holds Tryz.pinned (.plain (OpenSpec.upto vectorRangesSpec)) vectorRangesUptoCard

/-- THE SECOND FORM's CARD OF 'garboardlaw16.AttitudeFrames'. -/
def attitudeFramesUptoCard : Claim7 := { stood := { row := attitudeFramesUptoRow, standIns := [], harness := (true, "f6834b59d3a32dc1caebcdd56e5cc166c0610937adb86b9103e646233883aa4a"), looks := true }, kinds := [], alts := [], laidByText := true, laidKinds := [.data, .data, .data, .sentinel, .sentinel], laidTests := true, laidLooks := .later }
def AttitudeFramesUptoCardSaid : Prop := Claim7.holds Tryz.pinned (.plain (OpenSpec.upto attitudeFramesSpec)) attitudeFramesUptoCard

/-- THE SECOND FORM's CARD OF 'garboardlaw16.AttitudeTurns'. -/
def attitudeTurnsUptoCard : Claim7 := { stood := { row := attitudeTurnsUptoRow, standIns := [], harness := (true, "f6834b59d3a32dc1caebcdd56e5cc166c0610937adb86b9103e646233883aa4a"), looks := true }, kinds := [], alts := [], laidByText := true, laidKinds := [.data, .data, .data, .sentinel, .sentinel], laidTests := true, laidLooks := .later }
def AttitudeTurnsUptoCardSaid : Prop := Claim7.holds Tryz.pinned (.plain (OpenSpec.upto attitudeTurnsSpec)) attitudeTurnsUptoCard

/-- THE SECOND FORM's CARD OF 'garboardlaw16.AttitudeReturns'. -/
def attitudeReturnsUptoCard : Claim7 := { stood := { row := attitudeReturnsUptoRow, standIns := [], harness := (true, "f6834b59d3a32dc1caebcdd56e5cc166c0610937adb86b9103e646233883aa4a"), looks := true }, kinds := [], alts := [], laidByText := true, laidKinds := [.data, .data, .data, .sentinel, .sentinel], laidTests := true, laidLooks := .later }
def AttitudeReturnsUptoCardSaid : Prop := Claim7.holds Tryz.pinned (.plain (OpenSpec.upto attitudeReturnsSpec)) attitudeReturnsUptoCard

/-- THE SECOND FORM's CARD OF 'garboardlaw16.AttitudeExtents'. -/
def attitudeExtentsUptoCard : Claim7 := { stood := { row := attitudeExtentsUptoRow, standIns := [], harness := (true, "f6834b59d3a32dc1caebcdd56e5cc166c0610937adb86b9103e646233883aa4a"), looks := true }, kinds := [], alts := [], laidByText := true, laidKinds := [.data, .data, .data, .sentinel, .sentinel], laidTests := true, laidLooks := .later }
def AttitudeExtentsUptoCardSaid : Prop := Claim7.holds Tryz.pinned (.plain (OpenSpec.upto attitudeExtentsSpec)) attitudeExtentsUptoCard

/-- THE SECOND FORM's CARD OF 'garboardlaw16.AttitudeWithin'. -/
def attitudeWithinUptoCard : Claim7 := { stood := { row := attitudeWithinUptoRow, standIns := [], harness := (true, "f6834b59d3a32dc1caebcdd56e5cc166c0610937adb86b9103e646233883aa4a"), looks := true }, kinds := [], alts := [], laidByText := true, laidKinds := [.data, .data, .data, .sentinel, .sentinel], laidTests := true, laidLooks := .later }
def AttitudeWithinUptoCardSaid : Prop := Claim7.holds Tryz.pinned (.plain (OpenSpec.upto attitudeWithinSpec)) attitudeWithinUptoCard
end Rows
end Go.Proofs.YtgbabmkclojgeaaGreatDoor
