/-
  DERIVED. GIVEN WITH THE SEED: THE CARDS: each row of YtkgijoddkibapaaGreatDoorRows.lean that lists a variable, with what it lists TIED to the program's text (the seventh form; the later family's looks); each row that meets fmt, with fmt's text TOLD by the authors' own Lean function (tested against real Go, not proved from fmt's source: count such statements apart). THE CARD IS WHAT COUNTS. Prove the row's statement (the work); the ties are given (YtkgijoddkibapaaGreatDoorTie.lean); close each card by the builder's one call (the guide's Derived/Test/ToyasCard.lean, 'card_holds'). Laid BY PROGRAM, IN A SANDBOX (cutbox-door.mjs). By AI agents, Wed Nov 11 2026. No macro, syntax, notation, axiom, sorry.
-/
import Derived.Test.YtkgijoddkibapaaGreatDoorRows
import GoSem.ClaimSeven
namespace Go.Proofs.YtkgijoddkibapaaGreatDoor
namespace Rows

/-- THE TIED CARD OF 'pneumatictop.TopMotionsScale'. -/
def topMotionsScaleCard : Claim7 := { stood := { row := topMotionsScaleRow, standIns := [], harness := (true, "e1fa4d57abe4a97ed36189c40d2112be179e259a69354b25efcd0d55b3fda636"), looks := true }, kinds := [], alts := [], laidByText := true, laidKinds := [.data, .data, .data, .sentinel, .sentinel, .data, .data, .widerDeep], laidTests := true, laidLooks := .later }
def TopMotionsScaleCardSaid : Prop := Claim7.holds Tryz.pinned (.plain (OpenSpec.ofChange topMotionsScaleSpec)) topMotionsScaleCard

/-- THE SECOND FORM's CARD OF 'pneumatictop.TopMotionsScale'. -/
def topMotionsScaleUptoCard : Claim7 := { stood := { row := topMotionsScaleUptoRow, standIns := [], harness := (true, "e1fa4d57abe4a97ed36189c40d2112be179e259a69354b25efcd0d55b3fda636"), looks := true }, kinds := [], alts := [], laidByText := true, laidKinds := [.data, .data, .data, .sentinel, .sentinel, .data, .data, .widerDeep], laidTests := true, laidLooks := .later }
def TopMotionsScaleUptoCardSaid : Prop := Claim7.holds Tryz.pinned (.plain (OpenSpec.upto topMotionsScaleSpec)) topMotionsScaleUptoCard
end Rows
end Go.Proofs.YtkgijoddkibapaaGreatDoor
