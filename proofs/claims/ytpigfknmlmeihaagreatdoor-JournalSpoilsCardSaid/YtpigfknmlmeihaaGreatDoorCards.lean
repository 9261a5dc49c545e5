/-
  DERIVED. GIVEN WITH THE SEED: THE CARDS: each row of YtpigfknmlmeihaaGreatDoorRows.lean that lists a variable, with what it lists TIED to the program's text (the seventh form; the later family's looks); each row that meets fmt, with fmt's text TOLD by the authors' own Lean function (tested against real Go, not proved from fmt's source: count such statements apart). THE CARD IS WHAT COUNTS. Prove the row's statement (the work); the ties are given (YtpigfknmlmeihaaGreatDoorTie.lean); close each card by the builder's one call (the guide's Derived/Test/ToyasCard.lean, 'card_holds'). Laid BY PROGRAM, IN A SANDBOX (cutbox-door.mjs). By AI agents, Wed Nov 11 2026. No macro, syntax, notation, axiom, sorry.
-/
import Derived.Test.YtpigfknmlmeihaaGreatDoorRows
import GoSem.ClaimSeven
namespace Go.Proofs.YtpigfknmlmeihaaGreatDoor
namespace Rows

/-- THE TIED CARD OF 'pneumaticlaw58.JournalTexts'. -/
def journalTextsCard : Claim7 := { stood := { row := journalTextsRow, standIns := [], harness := (true, "cb6dcebd52f3306bb93ae44a95d468b35683ac1c228ee67adfd6fc518065cca0"), looks := true }, kinds := [], alts := [], laidByText := true, laidKinds := [.data, .data, .data, .data, .sentinel, .sentinel, .data, .pinned], laidTests := true, laidLooks := .later }
def JournalTextsCardSaid : Prop := Claim7.holds Tryz.pinned (.plain (OpenSpec.ofChange journalTextsSpec)) journalTextsCard

/-- THE TIED CARD OF 'pneumaticlaw58.JournalReads'. -/
def journalReadsCard : Claim7 := { stood := { row := journalReadsRow, standIns := [], harness := (true, "cb6dcebd52f3306bb93ae44a95d468b35683ac1c228ee67adfd6fc518065cca0"), looks := true }, kinds := [], alts := [], laidByText := true, laidKinds := [.data, .data, .data, .data, .sentinel, .sentinel, .data, .pinned], laidTests := true, laidLooks := .later }
def JournalReadsCardSaid : Prop := Claim7.holds Tryz.pinned (.plain (OpenSpec.ofChange journalReadsSpec)) journalReadsCard

/-- THE TIED CARD OF 'pneumaticlaw58.JournalLoads'. -/
def journalLoadsCard : Claim7 := { stood := { row := journalLoadsRow, standIns := [], harness := (true, "cb6dcebd52f3306bb93ae44a95d468b35683ac1c228ee67adfd6fc518065cca0"), looks := true }, kinds := [], alts := [], laidByText := true, laidKinds := [.data, .data, .data, .data, .sentinel, .sentinel, .data, .pinned], laidTests := true, laidLooks := .later }
def JournalLoadsCardSaid : Prop := Claim7.holds Tryz.pinned (.plain (OpenSpec.ofChange journalLoadsSpec)) journalLoadsCard

/-- THE TIED CARD OF 'pneumaticlaw58.JournalTears'. -/
def journalTearsCard : Claim7 := { stood := { row := journalTearsRow, standIns := [], harness := (true, "cb6dcebd52f3306bb93ae44a95d468b35683ac1c228ee67adfd6fc518065cca0"), looks := true }, kinds := [], alts := [], laidByText := true, laidKinds := [.data, .data, .data, .data, .sentinel, .sentinel, .data, .pinned], laidTests := true, laidLooks := .later }
def JournalTearsCardSaid : Prop := Claim7.holds Tryz.pinned (.plain (OpenSpec.ofChange journalTearsSpec)) journalTearsCard

/-- THE TIED CARD OF 'pneumaticlaw58.JournalSpoils'. -/
def journalSpoilsCard : Claim7 := { stood := { row := journalSpoilsRow, standIns := [], harness := (true, "cb6dcebd52f3306bb93ae44a95d468b35683ac1c228ee67adfd6fc518065cca0"), looks := true }, kinds := [], alts := [], laidByText := true, laidKinds := [.data, .data, .data, .data, .sentinel, .sentinel, .data, .pinned], laidTests := true, laidLooks := .later }
def JournalSpoilsCardSaid : Prop := Claim7.holds Tryz.pinned (.plain (OpenSpec.ofChange journalSpoilsSpec)) journalSpoilsCard

/-- THE SECOND FORM's CARD OF 'pneumaticlaw58.JournalTexts'. -/
def journalTextsUptoCard : Claim7 := { stood := { row := journalTextsUptoRow, standIns := [], harness := (true, "cb6dcebd52f3306bb93ae44a95d468b35683ac1c228ee67adfd6fc518065cca0"), looks := true }, kinds := [], alts := [], laidByText := true, laidKinds := [.data, .data, .data, .data, .sentinel, .sentinel, .data, .pinned], laidTests := true, laidLooks := .later }
def JournalTextsUptoCardSaid : Prop := Claim7.holds Tryz.pinned (.plain (OpenSpec.upto journalTextsSpec)) journalTextsUptoCard

/-- THE SECOND FORM's CARD OF 'pneumaticlaw58.JournalReads'. -/
def journalReadsUptoCard : Claim7 := { stood := { row := journalReadsUptoRow, standIns := [], harness := (true, "cb6dcebd52f3306bb93ae44a95d468b35683ac1c228ee67adfd6fc518065cca0"), looks := true }, kinds := [], alts := [], laidByText := true, laidKinds := [.data, .data, .data, .data, .sentinel, .sentinel, .data, .pinned], laidTests := true, laidLooks := .later }
def JournalReadsUptoCardSaid : Prop := Claim7.holds Tryz.pinned (.plain (OpenSpec.upto journalReadsSpec)) journalReadsUptoCard

/-- THE SECOND FORM's CARD OF 'pneumaticlaw58.JournalLoads'. -/
def journalLoadsUptoCard : Claim7 := { stood := { row := journalLoadsUptoRow, standIns := [], harness := (true, "cb6dcebd52f3306bb93ae44a95d468b35683ac1c228ee67adfd6fc518065cca0"), looks := true }, kinds := [], alts := [], laidByText := true, laidKinds := [.data, .data, .data, .data, .sentinel, .sentinel, .data, .pinned], laidTests := true, laidLooks := .later }
def JournalLoadsUptoCardSaid : Prop := Claim7.holds Tryz.pinned (.plain (OpenSpec.upto journalLoadsSpec)) journalLoadsUptoCard

/-- THE SECOND FORM's CARD OF 'pneumaticlaw58.JournalTears'. -/
def journalTearsUptoCard : Claim7 := { stood := { row := journalTearsUptoRow, standIns := [], harness := (true, "cb6dcebd52f3306bb93ae44a95d468b35683ac1c228ee67adfd6fc518065cca0"), looks := true }, kinds := [], alts := [], laidByText := true, laidKinds := [.data, .data, .data, .data, .sentinel, .sentinel, .data, .pinned], laidTests := true, laidLooks := .later }
def JournalTearsUptoCardSaid : Prop := Claim7.holds Tryz.pinned (.plain (OpenSpec.upto journalTearsSpec)) journalTearsUptoCard

/-- THE SECOND FORM's CARD OF 'pneumaticlaw58.JournalSpoils'. -/
def journalSpoilsUptoCard : Claim7 := { stood := { row := journalSpoilsUptoRow, standIns := [], harness := (true, "cb6dcebd52f3306bb93ae44a95d468b35683ac1c228ee67adfd6fc518065cca0"), looks := true }, kinds := [], alts := [], laidByText := true, laidKinds := [.data, .data, .data, .data, .sentinel, .sentinel, .data, .pinned], laidTests := true, laidLooks := .later }
def JournalSpoilsUptoCardSaid : Prop := Claim7.holds Tryz.pinned (.plain (OpenSpec.upto journalSpoilsSpec)) journalSpoilsUptoCard
end Rows
end Go.Proofs.YtpigfknmlmeihaaGreatDoor
