/-
  DERIVED. GIVEN WITH THE SEED: THE CARDS: each row of YtcgmhlakihjbkaaGreatDoorRows.lean that lists a variable, with what it lists TIED to the program's text (the seventh form; the later family's looks); each row that meets fmt, with fmt's text TOLD by the authors' own Lean function (tested against real Go, not proved from fmt's source: count such statements apart). THE CARD IS WHAT COUNTS. Prove the row's statement (the work); the ties are given (YtcgmhlakihjbkaaGreatDoorTie.lean); close each card by the builder's one call (the guide's Derived/Test/ToyasCard.lean, 'card_holds'). Laid BY PROGRAM, IN A SANDBOX (cutbox-door.mjs). By AI agents, Wed Nov 11 2026. No macro, syntax, notation, axiom, sorry.
-/
import Derived.Test.YtcgmhlakihjbkaaGreatDoorRows
import GoSem.ClaimSeven
namespace Go.Proofs.YtcgmhlakihjbkaaGreatDoor
namespace Rows

/-- THE TIED CARD OF 'pneumatictop.TopLogsWear'. -/
def topLogsWearCard : Claim7 := { stood := { row := topLogsWearRow, standIns := [], harness := (true, "a04a445729e8a214a60449eea1cbe5a88c78ce920e27971f3d24ce1236b03283"), looks := true }, kinds := [], alts := [], laidByText := true, laidKinds := [.data, .data, .data, .data, .sentinel, .sentinel, .data, .pinned], laidTests := true, laidLooks := .later }
def TopLogsWearCardSaid : Prop := Claim7.holds Tryz.pinned (.plain (OpenSpec.ofChange topLogsWearSpec)) topLogsWearCard

/-- THE SECOND FORM's CARD OF 'pneumatictop.TopLogsWear'. -/
def topLogsWearUptoCard : Claim7 := { stood := { row := topLogsWearUptoRow, standIns := [], harness := (true, "a04a445729e8a214a60449eea1cbe5a88c78ce920e27971f3d24ce1236b03283"), looks := true }, kinds := [], alts := [], laidByText := true, laidKinds := [.data, .data, .data, .data, .sentinel, .sentinel, .data, .pinned], laidTests := true, laidLooks := .later }
def TopLogsWearUptoCardSaid : Prop := Claim7.holds Tryz.pinned (.plain (OpenSpec.upto topLogsWearSpec)) topLogsWearUptoCard
end Rows
end Go.Proofs.YtcgmhlakihjbkaaGreatDoor
