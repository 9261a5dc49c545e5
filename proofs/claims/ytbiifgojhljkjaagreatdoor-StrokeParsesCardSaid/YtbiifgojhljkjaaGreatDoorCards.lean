/-
  DERIVED. GIVEN WITH THE SEED: THE CARDS: each row of YtbiifgojhljkjaaGreatDoorRows.lean that lists a variable, with what it lists TIED to the program's text (the seventh form; the later family's looks); each row that meets fmt, with fmt's text TOLD by the authors' own Lean function (tested against real Go, not proved from fmt's source: count such statements apart). THE CARD IS WHAT COUNTS. Prove the row's statement (the work); the ties are given (YtbiifgojhljkjaaGreatDoorTie.lean); close each card by the builder's one call (the guide's Derived/Test/ToyasCard.lean, 'card_holds'). Laid BY PROGRAM, IN A SANDBOX (cutbox-door.mjs). By AI agents, Wed Nov 11 2026. No macro, syntax, notation, axiom, sorry.
-/
import Derived.Test.YtbiifgojhljkjaaGreatDoorRows
import GoSem.ClaimSeven
namespace Go.Proofs.YtbiifgojhljkjaaGreatDoor
namespace Rows

/-- THE TIED CARD OF 'pneumaticlaw13.StrokeFormats'. -/
def strokeFormatsCard : Claim7 := { stood := { row := strokeFormatsRow, standIns := [], harness := (true, "f57b762e065dc59fb9316ce481874c2b3cf1e6bc98a1732b92582ffa6d709462"), looks := true }, kinds := [], alts := [], laidByText := true, laidKinds := [.data, .data, .data, .data, .sentinel, .sentinel, .pinned], laidTests := true, laidLooks := .later }
def StrokeFormatsCardSaid : Prop := Claim7.holds Tryz.pinned (.plain (OpenSpec.ofChange strokeFormatsSpec)) strokeFormatsCard

/-- THE TIED CARD OF 'pneumaticlaw13.StrokeParses'. -/
def strokeParsesCard : Claim7 := { stood := { row := strokeParsesRow, standIns := [], harness := (true, "f57b762e065dc59fb9316ce481874c2b3cf1e6bc98a1732b92582ffa6d709462"), looks := true }, kinds := [], alts := [], laidByText := true, laidKinds := [.data, .data, .data, .data, .sentinel, .sentinel, .pinned], laidTests := true, laidLooks := .later }
def StrokeParsesCardSaid : Prop := Claim7.holds Tryz.pinned (.plain (OpenSpec.ofChange strokeParsesSpec)) strokeParsesCard

/-- THE TIED CARD OF 'pneumaticlaw13.StrokeSteps'. -/
def strokeStepsCard : Claim7 := { stood := { row := strokeStepsRow, standIns := [], harness := (true, "f57b762e065dc59fb9316ce481874c2b3cf1e6bc98a1732b92582ffa6d709462"), looks := true }, kinds := [], alts := [], laidByText := true, laidKinds := [.data, .data, .data, .data, .sentinel, .sentinel, .pinned], laidTests := true, laidLooks := .later }
def StrokeStepsCardSaid : Prop := Claim7.holds Tryz.pinned (.plain (OpenSpec.ofChange strokeStepsSpec)) strokeStepsCard

/-- THE SECOND FORM's CARD OF 'pneumaticlaw13.StrokeFormats'. -/
def strokeFormatsUptoCard : Claim7 := { stood := { row := strokeFormatsUptoRow, standIns := [], harness := (true, "f57b762e065dc59fb9316ce481874c2b3cf1e6bc98a1732b92582ffa6d709462"), looks := true }, kinds := [], alts := [], laidByText := true, laidKinds := [.data, .data, .data, .data, .sentinel, .sentinel, .pinned], laidTests := true, laidLooks := .later }
def StrokeFormatsUptoCardSaid : Prop := Claim7.holds Tryz.pinned (.plain (OpenSpec.upto strokeFormatsSpec)) strokeFormatsUptoCard

/-- THE SECOND FORM's CARD OF 'pneumaticlaw13.StrokeParses'. -/
def strokeParsesUptoCard : Claim7 := { stood := { row := strokeParsesUptoRow, standIns := [], harness := (true, "f57b762e065dc59fb9316ce481874c2b3cf1e6bc98a1732b92582ffa6d709462"), looks := true }, kinds := [], alts := [], laidByText := true, laidKinds := [.data, .data, .data, .data, .sentinel, .sentinel, .pinned], laidTests := true, laidLooks := .later }
def StrokeParsesUptoCardSaid : Prop := Claim7.holds Tryz.pinned (.plain (OpenSpec.upto strokeParsesSpec)) strokeParsesUptoCard

/-- THE SECOND FORM's CARD OF 'pneumaticlaw13.StrokeSteps'. -/
def strokeStepsUptoCard : Claim7 := { stood := { row := strokeStepsUptoRow, standIns := [], harness := (true, "f57b762e065dc59fb9316ce481874c2b3cf1e6bc98a1732b92582ffa6d709462"), looks := true }, kinds := [], alts := [], laidByText := true, laidKinds := [.data, .data, .data, .data, .sentinel, .sentinel, .pinned], laidTests := true, laidLooks := .later }
def StrokeStepsUptoCardSaid : Prop := Claim7.holds Tryz.pinned (.plain (OpenSpec.upto strokeStepsSpec)) strokeStepsUptoCard
end Rows
end Go.Proofs.YtbiifgojhljkjaaGreatDoor
