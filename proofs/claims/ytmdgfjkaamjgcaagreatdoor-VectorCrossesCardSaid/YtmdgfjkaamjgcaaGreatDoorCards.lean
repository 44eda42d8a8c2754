/-
  DERIVED. GIVEN WITH THE SEED: THE CARDS: each row of YtmdgfjkaamjgcaaGreatDoorRows.lean that lists a variable, with what it lists TIED to the program's text (the seventh form; the later family's looks); each row that meets fmt, with fmt's text TOLD by the authors' own Lean function (tested against real Go, not proved from fmt's source: count such statements apart). THE CARD IS WHAT COUNTS. Prove the row's statement (the work); the ties are given (YtmdgfjkaamjgcaaGreatDoorTie.lean); close each card by the builder's one call (the guide's Derived/Test/ToyasCard.lean, 'card_holds'). Laid BY PROGRAM, IN A SANDBOX (cutbox-door.mjs). By AI agents, Wed Nov 11 2026. No macro, syntax, notation, axiom, sorry.
-/
import Derived.Test.YtmdgfjkaamjgcaaGreatDoorRows
import GoSem.ClaimSeven
namespace Go.Proofs.YtmdgfjkaamjgcaaGreatDoor
namespace Rows

/-- THE TIED CARD OF 'garboardlaw11.VectorComputes'. -/
def vectorComputesCard : Claim7 := { stood := { row := vectorComputesRow, standIns := [], harness := (true, "5f09c7e52822fef3e3edb7bc1684a3662395d4101fb26961f064771eb1a8fed1"), looks := true }, kinds := [], alts := [], laidByText := true, laidKinds := [.data, .data, .data, .sentinel, .sentinel], laidTests := true, laidLooks := .later }
def VectorComputesCardSaid : Prop := Claim7.holds Tryz.pinned (.plain (OpenSpec.ofChange vectorComputesSpec)) vectorComputesCard

/-- THE TIED CARD OF 'garboardlaw11.VectorPlanes'. -/
def vectorPlanesCard : Claim7 := { stood := { row := vectorPlanesRow, standIns := [], harness := (true, "5f09c7e52822fef3e3edb7bc1684a3662395d4101fb26961f064771eb1a8fed1"), looks := true }, kinds := [], alts := [], laidByText := true, laidKinds := [.data, .data, .data, .sentinel, .sentinel], laidTests := true, laidLooks := .later }
def VectorPlanesCardSaid : Prop := Claim7.holds Tryz.pinned (.plain (OpenSpec.ofChange vectorPlanesSpec)) vectorPlanesCard

/-- THE TIED CARD OF 'garboardlaw11.VectorRight'. -/
def vectorRightCard : Claim7 := { stood := { row := vectorRightRow, standIns := [], harness := (true, "5f09c7e52822fef3e3edb7bc1684a3662395d4101fb26961f064771eb1a8fed1"), looks := true }, kinds := [], alts := [], laidByText := true, laidKinds := [.data, .data, .data, .sentinel, .sentinel], laidTests := true, laidLooks := .later }
def VectorRightCardSaid : Prop := Claim7.holds Tryz.pinned (.plain (OpenSpec.ofChange vectorRightSpec)) vectorRightCard

/-- THE TIED CARD OF 'garboardlaw11.VectorLinear'. -/
def vectorLinearCard : Claim7 := { stood := { row := vectorLinearRow, standIns := [], harness := (true, "5f09c7e52822fef3e3edb7bc1684a3662395d4101fb26961f064771eb1a8fed1"), looks := true }, kinds := [], alts := [], laidByText := true, laidKinds := [.data, .data, .data, .sentinel, .sentinel], laidTests := true, laidLooks := .later }
def VectorLinearCardSaid : Prop := Claim7.holds Tryz.pinned (.plain (OpenSpec.ofChange vectorLinearSpec)) vectorLinearCard

/-- THE TIED CARD OF 'garboardlaw11.VectorThrough'. -/
def vectorThroughCard : Claim7 := { stood := { row := vectorThroughRow, standIns := [], harness := (true, "5f09c7e52822fef3e3edb7bc1684a3662395d4101fb26961f064771eb1a8fed1"), looks := true }, kinds := [], alts := [], laidByText := true, laidKinds := [.data, .data, .data, .sentinel, .sentinel], laidTests := true, laidLooks := .later }
def VectorThroughCardSaid : Prop := Claim7.holds Tryz.pinned (.plain (OpenSpec.ofChange vectorThroughSpec)) vectorThroughCard

/-- THE TIED CARD OF 'garboardlaw11.VectorRanges'. -/
def vectorRangesCard : Claim7 := { stood := { row := vectorRangesRow, standIns := [], harness := (true, "5f09c7e52822fef3e3edb7bc1684a3662395d4101fb26961f064771eb1a8fed1"), looks := true }, kinds := [], alts := [], laidByText := true, laidKinds := [.data, .data, .data, .sentinel, .sentinel], laidTests := true, laidLooks := .later }
def VectorRangesCardSaid : Prop := Claim7.holds Tryz.pinned (.plain (OpenSpec.ofChange vectorRangesSpec)) vectorRangesCard

/-- THE TIED CARD OF 'garboardlaw11.VectorCrosses'. -/
def vectorCrossesCard : Claim7 := { stood := { row := vectorCrossesRow, standIns := [], harness := (true, "5f09c7e52822fef3e3edb7bc1684a3662395d4101fb26961f064771eb1a8fed1"), looks := true }, kinds := [], alts := [], laidByText := true, laidKinds := [.data, .data, .data, .sentinel, .sentinel], laidTests := true, laidLooks := .later }
def VectorCrossesCardSaid : Prop := Claim7.holds Tryz.pinned (.plain (OpenSpec.ofChange vectorCrossesSpec)) vectorCrossesCard

/-- THE SECOND FORM's CARD OF 'garboardlaw11.VectorComputes'. -/
def vectorComputesUptoCard : Claim7 := { stood := { row := vectorComputesUptoRow, standIns := [], harness := (true, "5f09c7e52822fef3e3edb7bc1684a3662395d4101fb26961f064771eb1a8fed1"), looks := true }, kinds := [], alts := [], laidByText := true, laidKinds := [.data, .data, .data, .sentinel, .sentinel], laidTests := true, laidLooks := .later }
def VectorComputesUptoCardSaid : Prop := Claim7.holds Tryz.pinned (.plain (OpenSpec.upto vectorComputesSpec)) vectorComputesUptoCard

/-- THE SECOND FORM's CARD OF 'garboardlaw11.VectorPlanes'. -/
def vectorPlanesUptoCard : Claim7 := { stood := { row := vectorPlanesUptoRow, standIns := [], harness := (true, "5f09c7e52822fef3e3edb7bc1684a3662395d4101fb26961f064771eb1a8fed1"), looks := true }, kinds := [], alts := [], laidByText := true, laidKinds := [.data, .data, .data, .sentinel, .sentinel], laidTests := true, laidLooks := .later }
def VectorPlanesUptoCardSaid : Prop := Claim7.holds Tryz.pinned (.plain (OpenSpec.upto vectorPlanesSpec)) vectorPlanesUptoCard

/-- THE SECOND FORM's CARD OF 'garboardlaw11.VectorRight'. -/
def vectorRightUptoCard : Claim7 := { stood := { row := vectorRightUptoRow, standIns := [], harness := (true, "5f09c7e52822fef3e3edb7bc1684a3662395d4101fb26961f064771eb1a8fed1"), looks := true }, kinds := [], alts := [], laidByText := true, laidKinds := [.data, .data, .data, .sentinel, .sentinel], laidTests := true, laidLooks := .later }
def VectorRightUptoCardSaid : Prop := Claim7.holds Tryz.pinned (.plain (OpenSpec.upto vectorRightSpec)) vectorRightUptoCard

/-- THE SECOND FORM's CARD OF 'garboardlaw11.VectorLinear'. -/
def vectorLinearUptoCard : Claim7 := { stood := { row := vectorLinearUptoRow, standIns := [], harness := (true, "5f09c7e52822fef3e3edb7bc1684a3662395d4101fb26961f064771eb1a8fed1"), looks := true }, kinds := [], alts := [], laidByText := true, laidKinds := [.data, .data, .data, .sentinel, .sentinel], laidTests := true, laidLooks := .later }
def VectorLinearUptoCardSaid : Prop := Claim7.holds Tryz.pinned (.plain (OpenSpec.upto vectorLinearSpec)) vectorLinearUptoCard

/-- THE SECOND FORM's CARD OF 'garboardlaw11.VectorThrough'. -/
def vectorThroughUptoCard : Claim7 := { stood := { row := vectorThroughUptoRow, standIns := [], harness := (true, "5f09c7e52822fef3e3edb7bc1684a3662395d4101fb26961f064771eb1a8fed1"), looks := true }, kinds := [], alts := [], laidByText := true, laidKinds := [.data, .data, .data, .sentinel, .sentinel], laidTests := true, laidLooks := .later }
def VectorThroughUptoCardSaid : Prop := Claim7.holds Tryz.pinned (.plain (OpenSpec.upto vectorThroughSpec)) vectorThroughUptoCard

/-- THE SECOND FORM's CARD OF 'garboardlaw11.VectorRanges'. -/
def vectorRangesUptoCard : Claim7 := { stood := { row := vectorRangesUptoRow, standIns := [], harness := (true, "5f09c7e52822fef3e3edb7bc1684a3662395d4101fb26961f064771eb1a8fed1"), looks := true }, kinds := [], alts := [], laidByText := true, laidKinds := [.data, .data, .data, .sentinel, .sentinel], laidTests := true, laidLooks := .later }
def VectorRangesUptoCardSaid : Prop := Claim7.holds Tryz.pinned (.plain (OpenSpec.upto vectorRangesSpec)) vectorRangesUptoCard

/-- THE SECOND FORM's CARD OF 'garboardlaw11.VectorCrosses'. -/
def vectorCrossesUptoCard : Claim7 := { stood := { row := vectorCrossesUptoRow, standIns := [], harness := (true, "5f09c7e52822fef3e3edb7bc1684a3662395d4101fb26961f064771eb1a8fed1"), looks := true }, kinds := [], alts := [], laidByText := true, laidKinds := [.data, .data, .data, .sentinel, .sentinel], laidTests := true, laidLooks := .later }
def VectorCrossesUptoCardSaid : Prop := Claim7.holds Tryz.pinned (.plain (OpenSpec.upto vectorCrossesSpec)) vectorCrossesUptoCard
end Rows
end Go.Proofs.YtmdgfjkaamjgcaaGreatDoor
