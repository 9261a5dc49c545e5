/-
  DERIVED. GIVEN WITH THE SEED: THE CARDS: each row of YtpocodofhkaddaaGreatDoorRows.lean that lists a variable, with what it lists TIED to the program's text (the seventh form; the later family's looks); each row that meets fmt, with fmt's text TOLD by the authors' own Lean function (tested against real Go, not proved from fmt's source: count such statements apart). THE CARD IS WHAT COUNTS. Prove the row's statement (the work); the ties are given (YtpocodofhkaddaaGreatDoorTie.lean); close each card by the builder's one call (the guide's Derived/Test/ToyasCard.lean, 'card_holds'). Laid BY PROGRAM, IN A SANDBOX (cutbox-door.mjs). By AI agents, Wed Nov 11 2026. No macro, syntax, notation, axiom, sorry.
-/
import Derived.Test.YtpocodofhkaddaaGreatDoorRows
import GoSem.ClaimSeven
namespace Go.Proofs.YtpocodofhkaddaaGreatDoor
namespace Rows

/-- THE TIED CARD OF 'pneumatictop.TopLogsGrow'. -/
def topLogsGrowCard : Claim7 := { stood := { row := topLogsGrowRow, standIns := [], harness := (true, "30fbb0bd03e537de9ff93ce2fb177c5cb0ac79f03384797075d4d623289502f6"), looks := true }, kinds := [], alts := [], laidByText := true, laidKinds := [.data, .data, .data, .data, .sentinel, .sentinel, .data, .pinned], laidTests := true, laidLooks := .later }
def TopLogsGrowCardSaid : Prop := Claim7.holds Tryz.pinned (.plain (OpenSpec.ofChange topLogsGrowSpec)) topLogsGrowCard

/-- THE TIED CARD OF 'pneumatictop.TopLogsParts'. -/
def topLogsPartsCard : Claim7 := { stood := { row := topLogsPartsRow, standIns := [], harness := (true, "30fbb0bd03e537de9ff93ce2fb177c5cb0ac79f03384797075d4d623289502f6"), looks := true }, kinds := [], alts := [], laidByText := true, laidKinds := [.data, .data, .data, .data, .sentinel, .sentinel, .data, .pinned], laidTests := true, laidLooks := .later }
def TopLogsPartsCardSaid : Prop := Claim7.holds Tryz.pinned (.plain (OpenSpec.ofChange topLogsPartsSpec)) topLogsPartsCard

/-- THE SECOND FORM's CARD OF 'pneumatictop.TopLogsGrow'. -/
def topLogsGrowUptoCard : Claim7 := { stood := { row := topLogsGrowUptoRow, standIns := [], harness := (true, "30fbb0bd03e537de9ff93ce2fb177c5cb0ac79f03384797075d4d623289502f6"), looks := true }, kinds := [], alts := [], laidByText := true, laidKinds := [.data, .data, .data, .data, .sentinel, .sentinel, .data, .pinned], laidTests := true, laidLooks := .later }
def TopLogsGrowUptoCardSaid : Prop := Claim7.holds Tryz.pinned (.plain (OpenSpec.upto topLogsGrowSpec)) topLogsGrowUptoCard

/-- THE SECOND FORM's CARD OF 'pneumatictop.TopLogsParts'. -/
def topLogsPartsUptoCard : Claim7 := { stood := { row := topLogsPartsUptoRow, standIns := [], harness := (true, "30fbb0bd03e537de9ff93ce2fb177c5cb0ac79f03384797075d4d623289502f6"), looks := true }, kinds := [], alts := [], laidByText := true, laidKinds := [.data, .data, .data, .data, .sentinel, .sentinel, .data, .pinned], laidTests := true, laidLooks := .later }
def TopLogsPartsUptoCardSaid : Prop := Claim7.holds Tryz.pinned (.plain (OpenSpec.upto topLogsPartsSpec)) topLogsPartsUptoCard
end Rows
end Go.Proofs.YtpocodofhkaddaaGreatDoor
