/-
  DERIVED. GIVEN WITH THE SEED: THE CARDS: each row of YthkkdepppjiaeaaGreatDoorRows.lean that lists a variable, with what it lists TIED to the program's text (the seventh form; the later family's looks); each row that meets fmt, with fmt's text TOLD by the authors' own Lean function (tested against real Go, not proved from fmt's source: count such statements apart). THE CARD IS WHAT COUNTS. Prove the row's statement (the work); the ties are given (YthkkdepppjiaeaaGreatDoorTie.lean); close each card by the builder's one call (the guide's Derived/Test/ToyasCard.lean, 'card_holds'). Laid BY PROGRAM, IN A SANDBOX (cutbox-door.mjs). By AI agents, Wed Nov 11 2026. No macro, syntax, notation, axiom, sorry.
-/
import Derived.Test.YthkkdepppjiaeaaGreatDoorRows
import GoSem.ClaimSeven
namespace Go.Proofs.YthkkdepppjiaeaaGreatDoor
namespace Rows

/-- THE TIED CARD OF 'garboardlaw31.OpeningRises'. -/
def openingRisesCard : Claim7 := { stood := { row := openingRisesRow, standIns := [], harness := (true, "7265d2a93afa579c9340c889e0bb7d3c71767742125bf655704527e1a27fcd2e"), looks := true }, kinds := [], alts := [], laidByText := true, laidKinds := [.data, .data, .data, .sentinel, .sentinel], laidTests := true, laidLooks := .later }
def OpeningRisesCardSaid : Prop := Claim7.holds Tryz.pinned (.plain (OpenSpec.ofChange openingRisesSpec)) openingRisesCard

/-- THE TIED CARD OF 'garboardlaw31.OpeningMirrors'. -/
def openingMirrorsCard : Claim7 := { stood := { row := openingMirrorsRow, standIns := [], harness := (true, "7265d2a93afa579c9340c889e0bb7d3c71767742125bf655704527e1a27fcd2e"), looks := true }, kinds := [], alts := [], laidByText := true, laidKinds := [.data, .data, .data, .sentinel, .sentinel], laidTests := true, laidLooks := .later }
def OpeningMirrorsCardSaid : Prop := Claim7.holds Tryz.pinned (.plain (OpenSpec.ofChange openingMirrorsSpec)) openingMirrorsCard

/-- THE TIED CARD OF 'garboardlaw31.OpeningChecks'. -/
def openingChecksCard : Claim7 := { stood := { row := openingChecksRow, standIns := [], harness := (true, "7265d2a93afa579c9340c889e0bb7d3c71767742125bf655704527e1a27fcd2e"), looks := true }, kinds := [], alts := [], laidByText := true, laidKinds := [.data, .data, .data, .sentinel, .sentinel], laidTests := true, laidLooks := .later }
def OpeningChecksCardSaid : Prop := Claim7.holds Tryz.pinned (.plain (OpenSpec.ofChange openingChecksSpec)) openingChecksCard

/-- THE TIED CARD OF 'garboardlaw31.OpeningHeights'. -/
def openingHeightsCard : Claim7 := { stood := { row := openingHeightsRow, standIns := [], harness := (true, "7265d2a93afa579c9340c889e0bb7d3c71767742125bf655704527e1a27fcd2e"), looks := true }, kinds := [], alts := [], laidByText := true, laidKinds := [.data, .data, .data, .sentinel, .sentinel], laidTests := true, laidLooks := .later }
def OpeningHeightsCardSaid : Prop := Claim7.holds Tryz.pinned (.plain (OpenSpec.ofChange openingHeightsSpec)) openingHeightsCard

/-- THE TIED CARD OF 'garboardlaw16.AttitudeExtents'. -/
def attitudeExtentsCard : Claim7 := { stood := { row := attitudeExtentsRow, standIns := [], harness := (true, "7265d2a93afa579c9340c889e0bb7d3c71767742125bf655704527e1a27fcd2e"), looks := true }, kinds := [], alts := [], laidByText := true, laidKinds := [.data, .data, .data, .sentinel, .sentinel], laidTests := true, laidLooks := .later }
def AttitudeExtentsCardSaid : Prop := Claim7.holds Tryz.pinned (.plain (OpenSpec.ofChange attitudeExtentsSpec)) attitudeExtentsCard

/-- THE TIED CARD OF 'garboardlaw31.OpeningLeast'. -/
def openingLeastCard : Claim7 := { stood := { row := openingLeastRow, standIns := [], harness := (true, "7265d2a93afa579c9340c889e0bb7d3c71767742125bf655704527e1a27fcd2e"), looks := true }, kinds := [], alts := [], laidByText := true, laidKinds := [.data, .data, .data, .sentinel, .sentinel], laidTests := true, laidLooks := .later }
def OpeningLeastCardSaid : Prop := Claim7.holds Tryz.pinned (.plain (OpenSpec.ofChange openingLeastSpec)) openingLeastCard

/-- THE TIED CARD OF 'garboardlaw31.OpeningBack'. -/
def openingBackCard : Claim7 := { stood := { row := openingBackRow, standIns := [], harness := (true, "7265d2a93afa579c9340c889e0bb7d3c71767742125bf655704527e1a27fcd2e"), looks := true }, kinds := [], alts := [], laidByText := true, laidKinds := [.data, .data, .data, .data, .sentinel, .sentinel, .pinned], laidTests := true, laidLooks := .later }
def OpeningBackCardSaid : Prop := Claim7.holds Tryz.pinned (.plain (OpenSpec.ofChange openingBackSpec)) openingBackCard

/-- THE SECOND FORM's CARD OF 'garboardlaw31.OpeningRises'. -/
def openingRisesUptoCard : Claim7 := { stood := { row := openingRisesUptoRow, standIns := [], harness := (true, "7265d2a93afa579c9340c889e0bb7d3c71767742125bf655704527e1a27fcd2e"), looks := true }, kinds := [], alts := [], laidByText := true, laidKinds := [.data, .data, .data, .sentinel, .sentinel], laidTests := true, laidLooks := .later }
def OpeningRisesUptoCardSaid : Prop := Claim7.holds Tryz.pinned (.plain (OpenSpec.upto openingRisesSpec)) openingRisesUptoCard

/-- THE SECOND FORM's CARD OF 'garboardlaw31.OpeningMirrors'. -/
def openingMirrorsUptoCard : Claim7 := { stood := { row := openingMirrorsUptoRow, standIns := [], harness := (true, "7265d2a93afa579c9340c889e0bb7d3c71767742125bf655704527e1a27fcd2e"), looks := true }, kinds := [], alts := [], laidByText := true, laidKinds := [.data, .data, .data, .sentinel, .sentinel], laidTests := true, laidLooks := .later }
def OpeningMirrorsUptoCardSaid : Prop := Claim7.holds Tryz.pinned (.plain (OpenSpec.upto openingMirrorsSpec)) openingMirrorsUptoCard

/-- THE SECOND FORM's CARD OF 'garboardlaw31.OpeningChecks'. -/
def openingChecksUptoCard : Claim7 := { stood := { row := openingChecksUptoRow, standIns := [], harness := (true, "7265d2a93afa579c9340c889e0bb7d3c71767742125bf655704527e1a27fcd2e"), looks := true }, kinds := [], alts := [], laidByText := true, laidKinds := [.data, .data, .data, .sentinel, .sentinel], laidTests := true, laidLooks := .later }
def OpeningChecksUptoCardSaid : Prop := Claim7.holds Tryz.pinned (.plain (OpenSpec.upto openingChecksSpec)) openingChecksUptoCard

/-- THE SECOND FORM's CARD OF 'garboardlaw31.OpeningHeights'. -/
def openingHeightsUptoCard : Claim7 := { stood := { row := openingHeightsUptoRow, standIns := [], harness := (true, "7265d2a93afa579c9340c889e0bb7d3c71767742125bf655704527e1a27fcd2e"), looks := true }, kinds := [], alts := [], laidByText := true, laidKinds := [.data, .data, .data, .sentinel, .sentinel], laidTests := true, laidLooks := .later }
def OpeningHeightsUptoCardSaid : Prop := Claim7.holds Tryz.pinned (.plain (OpenSpec.upto openingHeightsSpec)) openingHeightsUptoCard

/-- THE SECOND FORM's CARD OF 'garboardlaw16.AttitudeExtents'. -/
def attitudeExtentsUptoCard : Claim7 := { stood := { row := attitudeExtentsUptoRow, standIns := [], harness := (true, "7265d2a93afa579c9340c889e0bb7d3c71767742125bf655704527e1a27fcd2e"), looks := true }, kinds := [], alts := [], laidByText := true, laidKinds := [.data, .data, .data, .sentinel, .sentinel], laidTests := true, laidLooks := .later }
def AttitudeExtentsUptoCardSaid : Prop := Claim7.holds Tryz.pinned (.plain (OpenSpec.upto attitudeExtentsSpec)) attitudeExtentsUptoCard

/-- THE SECOND FORM's CARD OF 'garboardlaw31.OpeningLeast'. -/
def openingLeastUptoCard : Claim7 := { stood := { row := openingLeastUptoRow, standIns := [], harness := (true, "7265d2a93afa579c9340c889e0bb7d3c71767742125bf655704527e1a27fcd2e"), looks := true }, kinds := [], alts := [], laidByText := true, laidKinds := [.data, .data, .data, .sentinel, .sentinel], laidTests := true, laidLooks := .later }
def OpeningLeastUptoCardSaid : Prop := Claim7.holds Tryz.pinned (.plain (OpenSpec.upto openingLeastSpec)) openingLeastUptoCard

/-- THE SECOND FORM's CARD OF 'garboardlaw31.OpeningBack'. -/
def openingBackUptoCard : Claim7 := { stood := { row := openingBackUptoRow, standIns := [], harness := (true, "7265d2a93afa579c9340c889e0bb7d3c71767742125bf655704527e1a27fcd2e"), looks := true }, kinds := [], alts := [], laidByText := true, laidKinds := [.data, .data, .data, .data, .sentinel, .sentinel, .pinned], laidTests := true, laidLooks := .later }
def OpeningBackUptoCardSaid : Prop := Claim7.holds Tryz.pinned (.plain (OpenSpec.upto openingBackSpec)) openingBackUptoCard
end Rows
end Go.Proofs.YthkkdepppjiaeaaGreatDoor
