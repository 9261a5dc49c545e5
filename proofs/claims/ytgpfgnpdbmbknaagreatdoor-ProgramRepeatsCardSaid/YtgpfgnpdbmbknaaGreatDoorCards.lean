/-
  DERIVED. GIVEN WITH THE SEED: THE CARDS: each row of YtgpfgnpdbmbknaaGreatDoorRows.lean that lists a variable, with what it lists TIED to the program's text (the seventh form; the later family's looks); each row that meets fmt, with fmt's text TOLD by the authors' own Lean function (tested against real Go, not proved from fmt's source: count such statements apart). THE CARD IS WHAT COUNTS. Prove the row's statement (the work); the ties are given (YtgpfgnpdbmbknaaGreatDoorTie.lean); close each card by the builder's one call (the guide's Derived/Test/ToyasCard.lean, 'card_holds'). Laid BY PROGRAM, IN A SANDBOX (cutbox-door.mjs). By AI agents, Wed Nov 11 2026. No macro, syntax, notation, axiom, sorry.
-/
import Derived.Test.YtgpfgnpdbmbknaaGreatDoorRows
import GoSem.ClaimSeven
namespace Go.Proofs.YtgpfgnpdbmbknaaGreatDoor
namespace Rows

/-- THE TIED CARD OF 'pneumaticlaw15.ProgramParses'. -/
def programParsesCard : Claim7 := { stood := { row := programParsesRow, standIns := [], harness := (true, "e17561e5c571d80c12c4c1952c1a4fd464a4ccd5a14f9b26c3e22e35c4ac81ee"), looks := true }, kinds := [], alts := [], laidByText := true, laidKinds := [.data, .data, .data, .sentinel, .sentinel, .data], laidTests := true, laidLooks := .later }
def ProgramParsesCardSaid : Prop := Claim7.holds Tryz.pinned (.plain (OpenSpec.ofChange programParsesSpec)) programParsesCard

/-- THE TIED CARD OF 'pneumaticlaw15.ProgramUnfolds'. -/
def programUnfoldsCard : Claim7 := { stood := { row := programUnfoldsRow, standIns := [], harness := (true, "e17561e5c571d80c12c4c1952c1a4fd464a4ccd5a14f9b26c3e22e35c4ac81ee"), looks := true }, kinds := [], alts := [], laidByText := true, laidKinds := [.data, .data, .data, .sentinel, .sentinel, .data], laidTests := true, laidLooks := .later }
def ProgramUnfoldsCardSaid : Prop := Claim7.holds Tryz.pinned (.plain (OpenSpec.ofChange programUnfoldsSpec)) programUnfoldsCard

/-- THE TIED CARD OF 'pneumaticlaw15.ProgramRuns'. -/
def programRunsCard : Claim7 := { stood := { row := programRunsRow, standIns := [], harness := (true, "e17561e5c571d80c12c4c1952c1a4fd464a4ccd5a14f9b26c3e22e35c4ac81ee"), looks := true }, kinds := [], alts := [], laidByText := true, laidKinds := [.data, .data, .data, .sentinel, .sentinel, .data], laidTests := true, laidLooks := .later }
def ProgramRunsCardSaid : Prop := Claim7.holds Tryz.pinned (.plain (OpenSpec.ofChange programRunsSpec)) programRunsCard

/-- THE TIED CARD OF 'pneumaticlaw15.ProgramChecks'. -/
def programChecksCard : Claim7 := { stood := { row := programChecksRow, standIns := [], harness := (true, "e17561e5c571d80c12c4c1952c1a4fd464a4ccd5a14f9b26c3e22e35c4ac81ee"), looks := true }, kinds := [], alts := [], laidByText := true, laidKinds := [.data, .data, .data, .sentinel, .sentinel, .data], laidTests := true, laidLooks := .later }
def ProgramChecksCardSaid : Prop := Claim7.holds Tryz.pinned (.plain (OpenSpec.ofChange programChecksSpec)) programChecksCard

/-- THE TIED CARD OF 'pneumaticlaw15.ProgramReads'. -/
def programReadsCard : Claim7 := { stood := { row := programReadsRow, standIns := [], harness := (true, "e17561e5c571d80c12c4c1952c1a4fd464a4ccd5a14f9b26c3e22e35c4ac81ee"), looks := true }, kinds := [], alts := [], laidByText := true, laidKinds := [.data, .data, .data, .sentinel, .sentinel, .data], laidTests := true, laidLooks := .later }
def ProgramReadsCardSaid : Prop := Claim7.holds Tryz.pinned (.plain (OpenSpec.ofChange programReadsSpec)) programReadsCard

/-- THE TIED CARD OF 'pneumaticlaw15.ProgramFaults'. -/
def programFaultsCard : Claim7 := { stood := { row := programFaultsRow, standIns := [], harness := (true, "e17561e5c571d80c12c4c1952c1a4fd464a4ccd5a14f9b26c3e22e35c4ac81ee"), looks := true }, kinds := [], alts := [], laidByText := true, laidKinds := [.data, .data, .data, .sentinel, .sentinel, .data], laidTests := true, laidLooks := .later }
def ProgramFaultsCardSaid : Prop := Claim7.holds Tryz.pinned (.plain (OpenSpec.ofChange programFaultsSpec)) programFaultsCard

/-- THE TIED CARD OF 'pneumaticlaw15.ProgramNormal'. -/
def programNormalCard : Claim7 := { stood := { row := programNormalRow, standIns := [], harness := (true, "e17561e5c571d80c12c4c1952c1a4fd464a4ccd5a14f9b26c3e22e35c4ac81ee"), looks := true }, kinds := [], alts := [], laidByText := true, laidKinds := [.data, .data, .data, .sentinel, .sentinel, .data], laidTests := true, laidLooks := .later }
def ProgramNormalCardSaid : Prop := Claim7.holds Tryz.pinned (.plain (OpenSpec.ofChange programNormalSpec)) programNormalCard

/-- THE TIED CARD OF 'pneumaticlaw15.ProgramRepeats'. -/
def programRepeatsCard : Claim7 := { stood := { row := programRepeatsRow, standIns := [], harness := (true, "e17561e5c571d80c12c4c1952c1a4fd464a4ccd5a14f9b26c3e22e35c4ac81ee"), looks := true }, kinds := [], alts := [], laidByText := true, laidKinds := [.data, .data, .data, .sentinel, .sentinel, .data], laidTests := true, laidLooks := .later }
def ProgramRepeatsCardSaid : Prop := Claim7.holds Tryz.pinned (.plain (OpenSpec.ofChange programRepeatsSpec)) programRepeatsCard

/-- THE SECOND FORM's CARD OF 'pneumaticlaw15.ProgramParses'. -/
def programParsesUptoCard : Claim7 := { stood := { row := programParsesUptoRow, standIns := [], harness := (true, "e17561e5c571d80c12c4c1952c1a4fd464a4ccd5a14f9b26c3e22e35c4ac81ee"), looks := true }, kinds := [], alts := [], laidByText := true, laidKinds := [.data, .data, .data, .sentinel, .sentinel, .data], laidTests := true, laidLooks := .later }
def ProgramParsesUptoCardSaid : Prop := Claim7.holds Tryz.pinned (.plain (OpenSpec.upto programParsesSpec)) programParsesUptoCard

/-- THE SECOND FORM's CARD OF 'pneumaticlaw15.ProgramUnfolds'. -/
def programUnfoldsUptoCard : Claim7 := { stood := { row := programUnfoldsUptoRow, standIns := [], harness := (true, "e17561e5c571d80c12c4c1952c1a4fd464a4ccd5a14f9b26c3e22e35c4ac81ee"), looks := true }, kinds := [], alts := [], laidByText := true, laidKinds := [.data, .data, .data, .sentinel, .sentinel, .data], laidTests := true, laidLooks := .later }
def ProgramUnfoldsUptoCardSaid : Prop := Claim7.holds Tryz.pinned (.plain (OpenSpec.upto programUnfoldsSpec)) programUnfoldsUptoCard

/-- THE SECOND FORM's CARD OF 'pneumaticlaw15.ProgramRuns'. -/
def programRunsUptoCard : Claim7 := { stood := { row := programRunsUptoRow, standIns := [], harness := (true, "e17561e5c571d80c12c4c1952c1a4fd464a4ccd5a14f9b26c3e22e35c4ac81ee"), looks := true }, kinds := [], alts := [], laidByText := true, laidKinds := [.data, .data, .data, .sentinel, .sentinel, .data], laidTests := true, laidLooks := .later }
def ProgramRunsUptoCardSaid : Prop := Claim7.holds Tryz.pinned (.plain (OpenSpec.upto programRunsSpec)) programRunsUptoCard

/-- THE SECOND FORM's CARD OF 'pneumaticlaw15.ProgramChecks'. -/
def programChecksUptoCard : Claim7 := { stood := { row := programChecksUptoRow, standIns := [], harness := (true, "e17561e5c571d80c12c4c1952c1a4fd464a4ccd5a14f9b26c3e22e35c4ac81ee"), looks := true }, kinds := [], alts := [], laidByText := true, laidKinds := [.data, .data, .data, .sentinel, .sentinel, .data], laidTests := true, laidLooks := .later }
def ProgramChecksUptoCardSaid : Prop := Claim7.holds Tryz.pinned (.plain (OpenSpec.upto programChecksSpec)) programChecksUptoCard

/-- THE SECOND FORM's CARD OF 'pneumaticlaw15.ProgramReads'. -/
def programReadsUptoCard : Claim7 := { stood := { row := programReadsUptoRow, standIns := [], harness := (true, "e17561e5c571d80c12c4c1952c1a4fd464a4ccd5a14f9b26c3e22e35c4ac81ee"), looks := true }, kinds := [], alts := [], laidByText := true, laidKinds := [.data, .data, .data, .sentinel, .sentinel, .data], laidTests := true, laidLooks := .later }
def ProgramReadsUptoCardSaid : Prop := Claim7.holds Tryz.pinned (.plain (OpenSpec.upto programReadsSpec)) programReadsUptoCard

/-- THE SECOND FORM's CARD OF 'pneumaticlaw15.ProgramFaults'. -/
def programFaultsUptoCard : Claim7 := { stood := { row := programFaultsUptoRow, standIns := [], harness := (true, "e17561e5c571d80c12c4c1952c1a4fd464a4ccd5a14f9b26c3e22e35c4ac81ee"), looks := true }, kinds := [], alts := [], laidByText := true, laidKinds := [.data, .data, .data, .sentinel, .sentinel, .data], laidTests := true, laidLooks := .later }
def ProgramFaultsUptoCardSaid : Prop := Claim7.holds Tryz.pinned (.plain (OpenSpec.upto programFaultsSpec)) programFaultsUptoCard

/-- THE SECOND FORM's CARD OF 'pneumaticlaw15.ProgramNormal'. -/
def programNormalUptoCard : Claim7 := { stood := { row := programNormalUptoRow, standIns := [], harness := (true, "e17561e5c571d80c12c4c1952c1a4fd464a4ccd5a14f9b26c3e22e35c4ac81ee"), looks := true }, kinds := [], alts := [], laidByText := true, laidKinds := [.data, .data, .data, .sentinel, .sentinel, .data], laidTests := true, laidLooks := .later }
def ProgramNormalUptoCardSaid : Prop := Claim7.holds Tryz.pinned (.plain (OpenSpec.upto programNormalSpec)) programNormalUptoCard

/-- THE SECOND FORM's CARD OF 'pneumaticlaw15.ProgramRepeats'. -/
def programRepeatsUptoCard : Claim7 := { stood := { row := programRepeatsUptoRow, standIns := [], harness := (true, "e17561e5c571d80c12c4c1952c1a4fd464a4ccd5a14f9b26c3e22e35c4ac81ee"), looks := true }, kinds := [], alts := [], laidByText := true, laidKinds := [.data, .data, .data, .sentinel, .sentinel, .data], laidTests := true, laidLooks := .later }
def ProgramRepeatsUptoCardSaid : Prop := Claim7.holds Tryz.pinned (.plain (OpenSpec.upto programRepeatsSpec)) programRepeatsUptoCard
end Rows
end Go.Proofs.YtgpfgnpdbmbknaaGreatDoor
