/-
  DERIVED. GIVEN WITH THE SEED: THE CARDS: each row of YtbhcojijafbdiaaGreatDoorRows.lean that lists a variable, with what it lists TIED to the program's text (the seventh form; the later family's looks); each row that meets fmt, with fmt's text TOLD by the authors' own Lean function (tested against real Go, not proved from fmt's source: count such statements apart). THE CARD IS WHAT COUNTS. Prove the row's statement (the work); the ties are given (YtbhcojijafbdiaaGreatDoorTie.lean); close each card by the builder's one call (the guide's Derived/Test/ToyasCard.lean, 'card_holds'). Laid BY PROGRAM, IN A SANDBOX (cutbox-door.mjs). By AI agents, Wed Nov 11 2026. No macro, syntax, notation, axiom, sorry.
-/
import Derived.Test.YtbhcojijafbdiaaGreatDoorRows
import GoSem.ClaimSeven
namespace Go.Proofs.YtbhcojijafbdiaaGreatDoor
namespace Rows

/-- THE TIED CARD OF 'pneumaticlaw14.SequenceAccepts'. -/
def sequenceAcceptsCard : Claim7 := { stood := { row := sequenceAcceptsRow, standIns := [], harness := (true, "9dfd516f3fdbc1e06fdaaa464802bf2de3bc9b78fdebfe968d97f8e522e1c497"), looks := true }, kinds := [], alts := [], laidByText := true, laidKinds := [.data, .data, .data, .data, .sentinel, .sentinel, .pinned], laidTests := true, laidLooks := .later }
def SequenceAcceptsCardSaid : Prop := Claim7.holds Tryz.pinned (.plain (OpenSpec.ofChange sequenceAcceptsSpec)) sequenceAcceptsCard

/-- THE TIED CARD OF 'pneumaticlaw14.SequenceWords'. -/
def sequenceWordsCard : Claim7 := { stood := { row := sequenceWordsRow, standIns := [], harness := (true, "9dfd516f3fdbc1e06fdaaa464802bf2de3bc9b78fdebfe968d97f8e522e1c497"), looks := true }, kinds := [], alts := [], laidByText := true, laidKinds := [.data, .data, .data, .data, .sentinel, .sentinel, .pinned], laidTests := true, laidLooks := .later }
def SequenceWordsCardSaid : Prop := Claim7.holds Tryz.pinned (.plain (OpenSpec.ofChange sequenceWordsSpec)) sequenceWordsCard

/-- THE TIED CARD OF 'pneumaticlaw14.SequenceRepeats'. -/
def sequenceRepeatsCard : Claim7 := { stood := { row := sequenceRepeatsRow, standIns := [], harness := (true, "9dfd516f3fdbc1e06fdaaa464802bf2de3bc9b78fdebfe968d97f8e522e1c497"), looks := true }, kinds := [], alts := [], laidByText := true, laidKinds := [.data, .data, .data, .data, .sentinel, .sentinel, .pinned], laidTests := true, laidLooks := .later }
def SequenceRepeatsCardSaid : Prop := Claim7.holds Tryz.pinned (.plain (OpenSpec.ofChange sequenceRepeatsSpec)) sequenceRepeatsCard

/-- THE TIED CARD OF 'pneumaticlaw14.SequenceChecks'. -/
def sequenceChecksCard : Claim7 := { stood := { row := sequenceChecksRow, standIns := [], harness := (true, "9dfd516f3fdbc1e06fdaaa464802bf2de3bc9b78fdebfe968d97f8e522e1c497"), looks := true }, kinds := [], alts := [], laidByText := true, laidKinds := [.data, .data, .data, .data, .sentinel, .sentinel, .pinned], laidTests := true, laidLooks := .later }
def SequenceChecksCardSaid : Prop := Claim7.holds Tryz.pinned (.plain (OpenSpec.ofChange sequenceChecksSpec)) sequenceChecksCard

/-- THE TIED CARD OF 'pneumaticlaw14.SequenceEnds'. -/
def sequenceEndsCard : Claim7 := { stood := { row := sequenceEndsRow, standIns := [], harness := (true, "9dfd516f3fdbc1e06fdaaa464802bf2de3bc9b78fdebfe968d97f8e522e1c497"), looks := true }, kinds := [], alts := [], laidByText := true, laidKinds := [.data, .data, .data, .data, .sentinel, .sentinel, .pinned], laidTests := true, laidLooks := .later }
def SequenceEndsCardSaid : Prop := Claim7.holds Tryz.pinned (.plain (OpenSpec.ofChange sequenceEndsSpec)) sequenceEndsCard

/-- THE TIED CARD OF 'pneumaticlaw14.SequenceReturns'. -/
def sequenceReturnsCard : Claim7 := { stood := { row := sequenceReturnsRow, standIns := [], harness := (true, "9dfd516f3fdbc1e06fdaaa464802bf2de3bc9b78fdebfe968d97f8e522e1c497"), looks := true }, kinds := [], alts := [], laidByText := true, laidKinds := [.data, .data, .data, .data, .sentinel, .sentinel, .pinned], laidTests := true, laidLooks := .later }
def SequenceReturnsCardSaid : Prop := Claim7.holds Tryz.pinned (.plain (OpenSpec.ofChange sequenceReturnsSpec)) sequenceReturnsCard

/-- THE TIED CARD OF 'pneumaticlaw14.SequenceTexts'. -/
def sequenceTextsCard : Claim7 := { stood := { row := sequenceTextsRow, standIns := [], harness := (true, "9dfd516f3fdbc1e06fdaaa464802bf2de3bc9b78fdebfe968d97f8e522e1c497"), looks := true }, kinds := [], alts := [], laidByText := true, laidKinds := [.data, .data, .data, .data, .sentinel, .sentinel, .pinned], laidTests := true, laidLooks := .later }
def SequenceTextsCardSaid : Prop := Claim7.holds Tryz.pinned (.plain (OpenSpec.ofChange sequenceTextsSpec)) sequenceTextsCard

/-- THE TIED CARD OF 'pneumaticlaw14.SequenceReads'. -/
def sequenceReadsCard : Claim7 := { stood := { row := sequenceReadsRow, standIns := [], harness := (true, "9dfd516f3fdbc1e06fdaaa464802bf2de3bc9b78fdebfe968d97f8e522e1c497"), looks := true }, kinds := [], alts := [], laidByText := true, laidKinds := [.data, .data, .data, .data, .sentinel, .sentinel, .pinned], laidTests := true, laidLooks := .later }
def SequenceReadsCardSaid : Prop := Claim7.holds Tryz.pinned (.plain (OpenSpec.ofChange sequenceReadsSpec)) sequenceReadsCard

/-- THE SECOND FORM's CARD OF 'pneumaticlaw14.SequenceAccepts'. -/
def sequenceAcceptsUptoCard : Claim7 := { stood := { row := sequenceAcceptsUptoRow, standIns := [], harness := (true, "9dfd516f3fdbc1e06fdaaa464802bf2de3bc9b78fdebfe968d97f8e522e1c497"), looks := true }, kinds := [], alts := [], laidByText := true, laidKinds := [.data, .data, .data, .data, .sentinel, .sentinel, .pinned], laidTests := true, laidLooks := .later }
def SequenceAcceptsUptoCardSaid : Prop := Claim7.holds Tryz.pinned (.plain (OpenSpec.upto sequenceAcceptsSpec)) sequenceAcceptsUptoCard

/-- THE SECOND FORM's CARD OF 'pneumaticlaw14.SequenceWords'. -/
def sequenceWordsUptoCard : Claim7 := { stood := { row := sequenceWordsUptoRow, standIns := [], harness := (true, "9dfd516f3fdbc1e06fdaaa464802bf2de3bc9b78fdebfe968d97f8e522e1c497"), looks := true }, kinds := [], alts := [], laidByText := true, laidKinds := [.data, .data, .data, .data, .sentinel, .sentinel, .pinned], laidTests := true, laidLooks := .later }
def SequenceWordsUptoCardSaid : Prop := Claim7.holds Tryz.pinned (.plain (OpenSpec.upto sequenceWordsSpec)) sequenceWordsUptoCard

/-- THE SECOND FORM's CARD OF 'pneumaticlaw14.SequenceRepeats'. -/
def sequenceRepeatsUptoCard : Claim7 := { stood := { row := sequenceRepeatsUptoRow, standIns := [], harness := (true, "9dfd516f3fdbc1e06fdaaa464802bf2de3bc9b78fdebfe968d97f8e522e1c497"), looks := true }, kinds := [], alts := [], laidByText := true, laidKinds := [.data, .data, .data, .data, .sentinel, .sentinel, .pinned], laidTests := true, laidLooks := .later }
def SequenceRepeatsUptoCardSaid : Prop := Claim7.holds Tryz.pinned (.plain (OpenSpec.upto sequenceRepeatsSpec)) sequenceRepeatsUptoCard

/-- THE SECOND FORM's CARD OF 'pneumaticlaw14.SequenceChecks'. -/
def sequenceChecksUptoCard : Claim7 := { stood := { row := sequenceChecksUptoRow, standIns := [], harness := (true, "9dfd516f3fdbc1e06fdaaa464802bf2de3bc9b78fdebfe968d97f8e522e1c497"), looks := true }, kinds := [], alts := [], laidByText := true, laidKinds := [.data, .data, .data, .data, .sentinel, .sentinel, .pinned], laidTests := true, laidLooks := .later }
def SequenceChecksUptoCardSaid : Prop := Claim7.holds Tryz.pinned (.plain (OpenSpec.upto sequenceChecksSpec)) sequenceChecksUptoCard

/-- THE SECOND FORM's CARD OF 'pneumaticlaw14.SequenceEnds'. -/
def sequenceEndsUptoCard : Claim7 := { stood := { row := sequenceEndsUptoRow, standIns := [], harness := (true, "9dfd516f3fdbc1e06fdaaa464802bf2de3bc9b78fdebfe968d97f8e522e1c497"), looks := true }, kinds := [], alts := [], laidByText := true, laidKinds := [.data, .data, .data, .data, .sentinel, .sentinel, .pinned], laidTests := true, laidLooks := .later }
def SequenceEndsUptoCardSaid : Prop := Claim7.holds Tryz.pinned (.plain (OpenSpec.upto sequenceEndsSpec)) sequenceEndsUptoCard

/-- THE SECOND FORM's CARD OF 'pneumaticlaw14.SequenceReturns'. -/
def sequenceReturnsUptoCard : Claim7 := { stood := { row := sequenceReturnsUptoRow, standIns := [], harness := (true, "9dfd516f3fdbc1e06fdaaa464802bf2de3bc9b78fdebfe968d97f8e522e1c497"), looks := true }, kinds := [], alts := [], laidByText := true, laidKinds := [.data, .data, .data, .data, .sentinel, .sentinel, .pinned], laidTests := true, laidLooks := .later }
def SequenceReturnsUptoCardSaid : Prop := Claim7.holds Tryz.pinned (.plain (OpenSpec.upto sequenceReturnsSpec)) sequenceReturnsUptoCard

/-- THE SECOND FORM's CARD OF 'pneumaticlaw14.SequenceTexts'. -/
def sequenceTextsUptoCard : Claim7 := { stood := { row := sequenceTextsUptoRow, standIns := [], harness := (true, "9dfd516f3fdbc1e06fdaaa464802bf2de3bc9b78fdebfe968d97f8e522e1c497"), looks := true }, kinds := [], alts := [], laidByText := true, laidKinds := [.data, .data, .data, .data, .sentinel, .sentinel, .pinned], laidTests := true, laidLooks := .later }
def SequenceTextsUptoCardSaid : Prop := Claim7.holds Tryz.pinned (.plain (OpenSpec.upto sequenceTextsSpec)) sequenceTextsUptoCard

/-- THE SECOND FORM's CARD OF 'pneumaticlaw14.SequenceReads'. -/
def sequenceReadsUptoCard : Claim7 := { stood := { row := sequenceReadsUptoRow, standIns := [], harness := (true, "9dfd516f3fdbc1e06fdaaa464802bf2de3bc9b78fdebfe968d97f8e522e1c497"), looks := true }, kinds := [], alts := [], laidByText := true, laidKinds := [.data, .data, .data, .data, .sentinel, .sentinel, .pinned], laidTests := true, laidLooks := .later }
def SequenceReadsUptoCardSaid : Prop := Claim7.holds Tryz.pinned (.plain (OpenSpec.upto sequenceReadsSpec)) sequenceReadsUptoCard
end Rows
end Go.Proofs.YtbhcojijafbdiaaGreatDoor
