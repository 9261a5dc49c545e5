/-
  DERIVED. GIVEN WITH THE SEED: THE CARDS: each row of YtbckcjjffbgidaaGreatDoorRows.lean that lists a variable, with what it lists TIED to the program's text (the seventh form; the later family's looks); each row that meets fmt, with fmt's text TOLD by the authors' own Lean function (tested against real Go, not proved from fmt's source: count such statements apart). THE CARD IS WHAT COUNTS. Prove the row's statement (the work); the ties are given (YtbckcjjffbgidaaGreatDoorTie.lean); close each card by the builder's one call (the guide's Derived/Test/ToyasCard.lean, 'card_holds'). Laid BY PROGRAM, IN A SANDBOX (cutbox-door.mjs). By AI agents, Wed Nov 11 2026. No macro, syntax, notation, axiom, sorry.
-/
import Derived.Test.YtbckcjjffbgidaaGreatDoorRows
import GoSem.ClaimSeven
namespace Go.Proofs.YtbckcjjffbgidaaGreatDoor
namespace Rows

/-- THE TIED CARD OF 'pneumaticlaw16.DiagramDraws'. -/
def diagramDrawsCard : Claim7 := { stood := { row := diagramDrawsRow, standIns := [], harness := (true, "2aaf41c7c4b5a38f8bac0123257f9c53d37d68851222585e558db2fe4b43a466"), looks := true }, kinds := [], alts := [], laidByText := true, laidKinds := [.data, .data, .data, .data, .sentinel, .sentinel, .data, .widerDeep, .pinned], laidTests := true, laidLooks := .later }
def DiagramDrawsCardSaid : Prop := Claim7.holds Tryz.pinned (.plain (OpenSpec.ofChange diagramDrawsSpec)) diagramDrawsCard

/-- THE TIED CARD OF 'pneumaticlaw16.DiagramMarks'. -/
def diagramMarksCard : Claim7 := { stood := { row := diagramMarksRow, standIns := [], harness := (true, "2aaf41c7c4b5a38f8bac0123257f9c53d37d68851222585e558db2fe4b43a466"), looks := true }, kinds := [], alts := [], laidByText := true, laidKinds := [.data, .data, .data, .data, .sentinel, .sentinel, .data, .widerDeep, .pinned], laidTests := true, laidLooks := .later }
def DiagramMarksCardSaid : Prop := Claim7.holds Tryz.pinned (.plain (OpenSpec.ofChange diagramMarksSpec)) diagramMarksCard

/-- THE TIED CARD OF 'pneumaticlaw16.DiagramColumns'. -/
def diagramColumnsCard : Claim7 := { stood := { row := diagramColumnsRow, standIns := [], harness := (true, "2aaf41c7c4b5a38f8bac0123257f9c53d37d68851222585e558db2fe4b43a466"), looks := true }, kinds := [], alts := [], laidByText := true, laidKinds := [.data, .data, .data, .data, .sentinel, .sentinel, .data, .widerDeep, .pinned], laidTests := true, laidLooks := .later }
def DiagramColumnsCardSaid : Prop := Claim7.holds Tryz.pinned (.plain (OpenSpec.ofChange diagramColumnsSpec)) diagramColumnsCard

/-- THE TIED CARD OF 'pneumaticlaw16.DiagramSwitches'. -/
def diagramSwitchesCard : Claim7 := { stood := { row := diagramSwitchesRow, standIns := [], harness := (true, "2aaf41c7c4b5a38f8bac0123257f9c53d37d68851222585e558db2fe4b43a466"), looks := true }, kinds := [], alts := [], laidByText := true, laidKinds := [.data, .data, .data, .data, .sentinel, .sentinel, .data, .widerDeep, .pinned], laidTests := true, laidLooks := .later }
def DiagramSwitchesCardSaid : Prop := Claim7.holds Tryz.pinned (.plain (OpenSpec.ofChange diagramSwitchesSpec)) diagramSwitchesCard

/-- THE TIED CARD OF 'pneumaticlaw16.DiagramPlains'. -/
def diagramPlainsCard : Claim7 := { stood := { row := diagramPlainsRow, standIns := [], harness := (true, "2aaf41c7c4b5a38f8bac0123257f9c53d37d68851222585e558db2fe4b43a466"), looks := true }, kinds := [], alts := [], laidByText := true, laidKinds := [.data, .data, .data, .data, .sentinel, .sentinel, .data, .widerDeep, .pinned], laidTests := true, laidLooks := .later }
def DiagramPlainsCardSaid : Prop := Claim7.holds Tryz.pinned (.plain (OpenSpec.ofChange diagramPlainsSpec)) diagramPlainsCard

/-- THE TIED CARD OF 'pneumaticlaw16.DiagramScales'. -/
def diagramScalesCard : Claim7 := { stood := { row := diagramScalesRow, standIns := [], harness := (true, "2aaf41c7c4b5a38f8bac0123257f9c53d37d68851222585e558db2fe4b43a466"), looks := true }, kinds := [], alts := [], laidByText := true, laidKinds := [.data, .data, .data, .data, .sentinel, .sentinel, .data, .widerDeep, .pinned], laidTests := true, laidLooks := .later }
def DiagramScalesCardSaid : Prop := Claim7.holds Tryz.pinned (.plain (OpenSpec.ofChange diagramScalesSpec)) diagramScalesCard

/-- THE TIED CARD OF 'pneumaticlaw16.DiagramReads'. -/
def diagramReadsCard : Claim7 := { stood := { row := diagramReadsRow, standIns := [], harness := (true, "2aaf41c7c4b5a38f8bac0123257f9c53d37d68851222585e558db2fe4b43a466"), looks := true }, kinds := [], alts := [], laidByText := true, laidKinds := [.data, .data, .data, .data, .sentinel, .sentinel, .data, .widerDeep, .pinned], laidTests := true, laidLooks := .later }
def DiagramReadsCardSaid : Prop := Claim7.holds Tryz.pinned (.plain (OpenSpec.ofChange diagramReadsSpec)) diagramReadsCard

/-- THE TIED CARD OF 'pneumaticlaw16.DiagramReturns'. -/
def diagramReturnsCard : Claim7 := { stood := { row := diagramReturnsRow, standIns := [], harness := (true, "2aaf41c7c4b5a38f8bac0123257f9c53d37d68851222585e558db2fe4b43a466"), looks := true }, kinds := [], alts := [], laidByText := true, laidKinds := [.data, .data, .data, .data, .sentinel, .sentinel, .data, .widerDeep, .pinned], laidTests := true, laidLooks := .later }
def DiagramReturnsCardSaid : Prop := Claim7.holds Tryz.pinned (.plain (OpenSpec.ofChange diagramReturnsSpec)) diagramReturnsCard

/-- THE SECOND FORM's CARD OF 'pneumaticlaw16.DiagramDraws'. -/
def diagramDrawsUptoCard : Claim7 := { stood := { row := diagramDrawsUptoRow, standIns := [], harness := (true, "2aaf41c7c4b5a38f8bac0123257f9c53d37d68851222585e558db2fe4b43a466"), looks := true }, kinds := [], alts := [], laidByText := true, laidKinds := [.data, .data, .data, .data, .sentinel, .sentinel, .data, .widerDeep, .pinned], laidTests := true, laidLooks := .later }
def DiagramDrawsUptoCardSaid : Prop := Claim7.holds Tryz.pinned (.plain (OpenSpec.upto diagramDrawsSpec)) diagramDrawsUptoCard

/-- THE SECOND FORM's CARD OF 'pneumaticlaw16.DiagramMarks'. -/
def diagramMarksUptoCard : Claim7 := { stood := { row := diagramMarksUptoRow, standIns := [], harness := (true, "2aaf41c7c4b5a38f8bac0123257f9c53d37d68851222585e558db2fe4b43a466"), looks := true }, kinds := [], alts := [], laidByText := true, laidKinds := [.data, .data, .data, .data, .sentinel, .sentinel, .data, .widerDeep, .pinned], laidTests := true, laidLooks := .later }
def DiagramMarksUptoCardSaid : Prop := Claim7.holds Tryz.pinned (.plain (OpenSpec.upto diagramMarksSpec)) diagramMarksUptoCard

/-- THE SECOND FORM's CARD OF 'pneumaticlaw16.DiagramColumns'. -/
def diagramColumnsUptoCard : Claim7 := { stood := { row := diagramColumnsUptoRow, standIns := [], harness := (true, "2aaf41c7c4b5a38f8bac0123257f9c53d37d68851222585e558db2fe4b43a466"), looks := true }, kinds := [], alts := [], laidByText := true, laidKinds := [.data, .data, .data, .data, .sentinel, .sentinel, .data, .widerDeep, .pinned], laidTests := true, laidLooks := .later }
def DiagramColumnsUptoCardSaid : Prop := Claim7.holds Tryz.pinned (.plain (OpenSpec.upto diagramColumnsSpec)) diagramColumnsUptoCard

/-- THE SECOND FORM's CARD OF 'pneumaticlaw16.DiagramSwitches'. -/
def diagramSwitchesUptoCard : Claim7 := { stood := { row := diagramSwitchesUptoRow, standIns := [], harness := (true, "2aaf41c7c4b5a38f8bac0123257f9c53d37d68851222585e558db2fe4b43a466"), looks := true }, kinds := [], alts := [], laidByText := true, laidKinds := [.data, .data, .data, .data, .sentinel, .sentinel, .data, .widerDeep, .pinned], laidTests := true, laidLooks := .later }
def DiagramSwitchesUptoCardSaid : Prop := Claim7.holds Tryz.pinned (.plain (OpenSpec.upto diagramSwitchesSpec)) diagramSwitchesUptoCard

/-- THE SECOND FORM's CARD OF 'pneumaticlaw16.DiagramPlains'. -/
def diagramPlainsUptoCard : Claim7 := { stood := { row := diagramPlainsUptoRow, standIns := [], harness := (true, "2aaf41c7c4b5a38f8bac0123257f9c53d37d68851222585e558db2fe4b43a466"), looks := true }, kinds := [], alts := [], laidByText := true, laidKinds := [.data, .data, .data, .data, .sentinel, .sentinel, .data, .widerDeep, .pinned], laidTests := true, laidLooks := .later }
def DiagramPlainsUptoCardSaid : Prop := Claim7.holds Tryz.pinned (.plain (OpenSpec.upto diagramPlainsSpec)) diagramPlainsUptoCard

/-- THE SECOND FORM's CARD OF 'pneumaticlaw16.DiagramScales'. -/
def diagramScalesUptoCard : Claim7 := { stood := { row := diagramScalesUptoRow, standIns := [], harness := (true, "2aaf41c7c4b5a38f8bac0123257f9c53d37d68851222585e558db2fe4b43a466"), looks := true }, kinds := [], alts := [], laidByText := true, laidKinds := [.data, .data, .data, .data, .sentinel, .sentinel, .data, .widerDeep, .pinned], laidTests := true, laidLooks := .later }
def DiagramScalesUptoCardSaid : Prop := Claim7.holds Tryz.pinned (.plain (OpenSpec.upto diagramScalesSpec)) diagramScalesUptoCard

/-- THE SECOND FORM's CARD OF 'pneumaticlaw16.DiagramReads'. -/
def diagramReadsUptoCard : Claim7 := { stood := { row := diagramReadsUptoRow, standIns := [], harness := (true, "2aaf41c7c4b5a38f8bac0123257f9c53d37d68851222585e558db2fe4b43a466"), looks := true }, kinds := [], alts := [], laidByText := true, laidKinds := [.data, .data, .data, .data, .sentinel, .sentinel, .data, .widerDeep, .pinned], laidTests := true, laidLooks := .later }
def DiagramReadsUptoCardSaid : Prop := Claim7.holds Tryz.pinned (.plain (OpenSpec.upto diagramReadsSpec)) diagramReadsUptoCard

/-- THE SECOND FORM's CARD OF 'pneumaticlaw16.DiagramReturns'. -/
def diagramReturnsUptoCard : Claim7 := { stood := { row := diagramReturnsUptoRow, standIns := [], harness := (true, "2aaf41c7c4b5a38f8bac0123257f9c53d37d68851222585e558db2fe4b43a466"), looks := true }, kinds := [], alts := [], laidByText := true, laidKinds := [.data, .data, .data, .data, .sentinel, .sentinel, .data, .widerDeep, .pinned], laidTests := true, laidLooks := .later }
def DiagramReturnsUptoCardSaid : Prop := Claim7.holds Tryz.pinned (.plain (OpenSpec.upto diagramReturnsSpec)) diagramReturnsUptoCard
end Rows
end Go.Proofs.YtbckcjjffbgidaaGreatDoor
