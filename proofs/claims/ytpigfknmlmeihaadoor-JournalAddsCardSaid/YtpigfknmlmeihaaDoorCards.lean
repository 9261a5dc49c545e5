/-
  DERIVED. GIVEN WITH THE SEED: THE CARDS: each row of YtpigfknmlmeihaaDoorRows.lean that lists a variable, with what it lists TIED to the program's text (the seventh form; the later family's looks); each row that meets fmt, with fmt's text TOLD by the authors' own Lean function (tested against real Go, not proved from fmt's source: count such statements apart). THE CARD IS WHAT COUNTS. Prove the row's statement (the work); the ties are given (YtpigfknmlmeihaaDoorTie.lean); close each card by the builder's one call (the guide's Derived/Test/ToyasCard.lean, 'card_holds'). Laid BY PROGRAM, IN A SANDBOX (cutbox-door.mjs). By AI agents, Wed Nov 11 2026. No macro, syntax, notation, axiom, sorry.
-/
import Derived.Test.YtpigfknmlmeihaaDoorRows
import GoSem.ClaimSeven
namespace Go.Proofs.YtpigfknmlmeihaaDoor
namespace Rows

/-- THE TIED CARD OF 'pneumaticlaw58.JournalDoes'. -/
def journalDoesCard : Claim7 := { stood := { row := journalDoesRow, standIns := [], harness := (true, "fd4a30bb2a8fc337db5589cfc2b86162e12a1da443ce74547e9b228b81ca31f8"), looks := false }, kinds := [], alts := [], laidByText := true, laidKinds := [.data, .data, .data, .data], laidTests := true, laidLooks := .later }
def JournalDoesCardSaid : Prop := Claim7.holds Tryd.pinned (.plain (OpenSpec.ofChange journalDoesSpec)) journalDoesCard

/-- THE TIED CARD OF 'pneumaticlaw58.JournalAsks'. -/
def journalAsksCard : Claim7 := { stood := { row := journalAsksRow, standIns := [], harness := (true, "fd4a30bb2a8fc337db5589cfc2b86162e12a1da443ce74547e9b228b81ca31f8"), looks := false }, kinds := [], alts := [], laidByText := true, laidKinds := [.data, .data, .data, .data], laidTests := true, laidLooks := .later }
def JournalAsksCardSaid : Prop := Claim7.holds Tryd.pinned (.plain (OpenSpec.ofChange journalAsksSpec)) journalAsksCard

/-- THE TIED CARD OF 'pneumaticlaw58.JournalRuns'. -/
def journalRunsCard : Claim7 := { stood := { row := journalRunsRow, standIns := [], harness := (true, "fd4a30bb2a8fc337db5589cfc2b86162e12a1da443ce74547e9b228b81ca31f8"), looks := false }, kinds := [], alts := [], laidByText := true, laidKinds := [.data, .data, .data, .data], laidTests := true, laidLooks := .later }
def JournalRunsCardSaid : Prop := Claim7.holds Tryd.pinned (.plain (OpenSpec.ofChange journalRunsSpec)) journalRunsCard

/-- THE TIED CARD OF 'pneumaticlaw58.JournalSwaps'. -/
def journalSwapsCard : Claim7 := { stood := { row := journalSwapsRow, standIns := [], harness := (true, "fd4a30bb2a8fc337db5589cfc2b86162e12a1da443ce74547e9b228b81ca31f8"), looks := false }, kinds := [], alts := [], laidByText := true, laidKinds := [.data, .data, .data, .data], laidTests := true, laidLooks := .later }
def JournalSwapsCardSaid : Prop := Claim7.holds Tryd.pinned (.plain (OpenSpec.ofChange journalSwapsSpec)) journalSwapsCard

/-- THE TIED CARD OF 'pneumaticlaw58.JournalAdds'. -/
def journalAddsCard : Claim7 := { stood := { row := journalAddsRow, standIns := [], harness := (true, "fd4a30bb2a8fc337db5589cfc2b86162e12a1da443ce74547e9b228b81ca31f8"), looks := false }, kinds := [], alts := [], laidByText := true, laidKinds := [.data, .data, .data, .data], laidTests := true, laidLooks := .later }
def JournalAddsCardSaid : Prop := Claim7.holds Tryd.pinned (.plain (OpenSpec.ofChange journalAddsSpec)) journalAddsCard

/-- THE SECOND FORM's CARD OF 'pneumaticlaw58.JournalDoes'. -/
def journalDoesUptoCard : Claim7 := { stood := { row := journalDoesUptoRow, standIns := [], harness := (true, "fd4a30bb2a8fc337db5589cfc2b86162e12a1da443ce74547e9b228b81ca31f8"), looks := false }, kinds := [], alts := [], laidByText := true, laidKinds := [.data, .data, .data, .data], laidTests := true, laidLooks := .later }
def JournalDoesUptoCardSaid : Prop := Claim7.holds Tryd.pinned (.plain (OpenSpec.upto journalDoesSpec)) journalDoesUptoCard

/-- THE SECOND FORM's CARD OF 'pneumaticlaw58.JournalAsks'. -/
def journalAsksUptoCard : Claim7 := { stood := { row := journalAsksUptoRow, standIns := [], harness := (true, "fd4a30bb2a8fc337db5589cfc2b86162e12a1da443ce74547e9b228b81ca31f8"), looks := false }, kinds := [], alts := [], laidByText := true, laidKinds := [.data, .data, .data, .data], laidTests := true, laidLooks := .later }
def JournalAsksUptoCardSaid : Prop := Claim7.holds Tryd.pinned (.plain (OpenSpec.upto journalAsksSpec)) journalAsksUptoCard

/-- THE SECOND FORM's CARD OF 'pneumaticlaw58.JournalRuns'. -/
def journalRunsUptoCard : Claim7 := { stood := { row := journalRunsUptoRow, standIns := [], harness := (true, "fd4a30bb2a8fc337db5589cfc2b86162e12a1da443ce74547e9b228b81ca31f8"), looks := false }, kinds := [], alts := [], laidByText := true, laidKinds := [.data, .data, .data, .data], laidTests := true, laidLooks := .later }
def JournalRunsUptoCardSaid : Prop := Claim7.holds Tryd.pinned (.plain (OpenSpec.upto journalRunsSpec)) journalRunsUptoCard

/-- THE SECOND FORM's CARD OF 'pneumaticlaw58.JournalSwaps'. -/
def journalSwapsUptoCard : Claim7 := { stood := { row := journalSwapsUptoRow, standIns := [], harness := (true, "fd4a30bb2a8fc337db5589cfc2b86162e12a1da443ce74547e9b228b81ca31f8"), looks := false }, kinds := [], alts := [], laidByText := true, laidKinds := [.data, .data, .data, .data], laidTests := true, laidLooks := .later }
def JournalSwapsUptoCardSaid : Prop := Claim7.holds Tryd.pinned (.plain (OpenSpec.upto journalSwapsSpec)) journalSwapsUptoCard

/-- THE SECOND FORM's CARD OF 'pneumaticlaw58.JournalAdds'. -/
def journalAddsUptoCard : Claim7 := { stood := { row := journalAddsUptoRow, standIns := [], harness := (true, "fd4a30bb2a8fc337db5589cfc2b86162e12a1da443ce74547e9b228b81ca31f8"), looks := false }, kinds := [], alts := [], laidByText := true, laidKinds := [.data, .data, .data, .data], laidTests := true, laidLooks := .later }
def JournalAddsUptoCardSaid : Prop := Claim7.holds Tryd.pinned (.plain (OpenSpec.upto journalAddsSpec)) journalAddsUptoCard
end Rows
end Go.Proofs.YtpigfknmlmeihaaDoor
