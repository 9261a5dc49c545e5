/-
  DERIVED. GIVEN WITH THE SEED: THE CARDS: each row of YtbiifgojhljkjaaDoorRows.lean that lists a variable, with what it lists TIED to the program's text (the seventh form; the later family's looks); each row that meets fmt, with fmt's text TOLD by the authors' own Lean function (tested against real Go, not proved from fmt's source: count such statements apart). THE CARD IS WHAT COUNTS. Prove the row's statement (the work); the ties are given (YtbiifgojhljkjaaDoorTie.lean); close each card by the builder's one call (the guide's Derived/Test/ToyasCard.lean, 'card_holds'). Laid BY PROGRAM, IN A SANDBOX (cutbox-door.mjs). By AI agents, Wed Nov 11 2026. No macro, syntax, notation, axiom, sorry.
-/
import Derived.Test.YtbiifgojhljkjaaDoorRows
import GoSem.ClaimSeven
namespace Go.Proofs.YtbiifgojhljkjaaDoor
namespace Rows

/-- THE TIED CARD OF 'pneumaticlaw13.StrokeReads'. -/
def strokeReadsCard : Claim7 := { stood := { row := strokeReadsRow, standIns := [], harness := (true, "113f053f93c125b4ba77a5f7e14316501a53a8e9cdcb5b301a9b2e3a02f7ff35"), looks := true }, kinds := [], alts := [], laidByText := true, laidKinds := [.data, .data, .data, .data, .sentinel, .sentinel, .pinned], laidTests := true, laidLooks := .later }
def StrokeReadsCardSaid : Prop := Claim7.holds Tryd.pinned (.plain (OpenSpec.ofChange strokeReadsSpec)) strokeReadsCard

/-- THE TIED CARD OF 'pneumaticlaw13.StrokeFits'. -/
def strokeFitsCard : Claim7 := { stood := { row := strokeFitsRow, standIns := [], harness := (true, "113f053f93c125b4ba77a5f7e14316501a53a8e9cdcb5b301a9b2e3a02f7ff35"), looks := true }, kinds := [], alts := [], laidByText := true, laidKinds := [.data, .data, .data, .data, .sentinel, .sentinel, .pinned], laidTests := true, laidLooks := .later }
def StrokeFitsCardSaid : Prop := Claim7.holds Tryd.pinned (.plain (OpenSpec.ofChange strokeFitsSpec)) strokeFitsCard

/-- THE TIED CARD OF 'pneumaticlaw13.StrokeMoves'. -/
def strokeMovesCard : Claim7 := { stood := { row := strokeMovesRow, standIns := [], harness := (true, "113f053f93c125b4ba77a5f7e14316501a53a8e9cdcb5b301a9b2e3a02f7ff35"), looks := true }, kinds := [], alts := [], laidByText := true, laidKinds := [.data, .data, .data, .data, .sentinel, .sentinel, .pinned], laidTests := true, laidLooks := .later }
def StrokeMovesCardSaid : Prop := Claim7.holds Tryd.pinned (.plain (OpenSpec.ofChange strokeMovesSpec)) strokeMovesCard

/-- THE TIED CARD OF 'pneumaticlaw13.StrokeChecks'. -/
def strokeChecksCard : Claim7 := { stood := { row := strokeChecksRow, standIns := [], harness := (true, "113f053f93c125b4ba77a5f7e14316501a53a8e9cdcb5b301a9b2e3a02f7ff35"), looks := true }, kinds := [], alts := [], laidByText := true, laidKinds := [.data, .data, .data, .data, .sentinel, .sentinel, .pinned], laidTests := true, laidLooks := .later }
def StrokeChecksCardSaid : Prop := Claim7.holds Tryd.pinned (.plain (OpenSpec.ofChange strokeChecksSpec)) strokeChecksCard

/-- THE TIED CARD OF 'pneumaticlaw13.StrokeReturns'. -/
def strokeReturnsCard : Claim7 := { stood := { row := strokeReturnsRow, standIns := [], harness := (true, "113f053f93c125b4ba77a5f7e14316501a53a8e9cdcb5b301a9b2e3a02f7ff35"), looks := true }, kinds := [], alts := [], laidByText := true, laidKinds := [.data, .data, .data, .data, .sentinel, .sentinel, .pinned], laidTests := true, laidLooks := .later }
def StrokeReturnsCardSaid : Prop := Claim7.holds Tryd.pinned (.plain (OpenSpec.ofChange strokeReturnsSpec)) strokeReturnsCard

/-- THE SECOND FORM's CARD OF 'pneumaticlaw13.StrokeReads'. -/
def strokeReadsUptoCard : Claim7 := { stood := { row := strokeReadsUptoRow, standIns := [], harness := (true, "113f053f93c125b4ba77a5f7e14316501a53a8e9cdcb5b301a9b2e3a02f7ff35"), looks := true }, kinds := [], alts := [], laidByText := true, laidKinds := [.data, .data, .data, .data, .sentinel, .sentinel, .pinned], laidTests := true, laidLooks := .later }
def StrokeReadsUptoCardSaid : Prop := Claim7.holds Tryd.pinned (.plain (OpenSpec.upto strokeReadsSpec)) strokeReadsUptoCard

/-- THE SECOND FORM's CARD OF 'pneumaticlaw13.StrokeFits'. -/
def strokeFitsUptoCard : Claim7 := { stood := { row := strokeFitsUptoRow, standIns := [], harness := (true, "113f053f93c125b4ba77a5f7e14316501a53a8e9cdcb5b301a9b2e3a02f7ff35"), looks := true }, kinds := [], alts := [], laidByText := true, laidKinds := [.data, .data, .data, .data, .sentinel, .sentinel, .pinned], laidTests := true, laidLooks := .later }
def StrokeFitsUptoCardSaid : Prop := Claim7.holds Tryd.pinned (.plain (OpenSpec.upto strokeFitsSpec)) strokeFitsUptoCard

/-- THE SECOND FORM's CARD OF 'pneumaticlaw13.StrokeMoves'. -/
def strokeMovesUptoCard : Claim7 := { stood := { row := strokeMovesUptoRow, standIns := [], harness := (true, "113f053f93c125b4ba77a5f7e14316501a53a8e9cdcb5b301a9b2e3a02f7ff35"), looks := true }, kinds := [], alts := [], laidByText := true, laidKinds := [.data, .data, .data, .data, .sentinel, .sentinel, .pinned], laidTests := true, laidLooks := .later }
def StrokeMovesUptoCardSaid : Prop := Claim7.holds Tryd.pinned (.plain (OpenSpec.upto strokeMovesSpec)) strokeMovesUptoCard

/-- THE SECOND FORM's CARD OF 'pneumaticlaw13.StrokeChecks'. -/
def strokeChecksUptoCard : Claim7 := { stood := { row := strokeChecksUptoRow, standIns := [], harness := (true, "113f053f93c125b4ba77a5f7e14316501a53a8e9cdcb5b301a9b2e3a02f7ff35"), looks := true }, kinds := [], alts := [], laidByText := true, laidKinds := [.data, .data, .data, .data, .sentinel, .sentinel, .pinned], laidTests := true, laidLooks := .later }
def StrokeChecksUptoCardSaid : Prop := Claim7.holds Tryd.pinned (.plain (OpenSpec.upto strokeChecksSpec)) strokeChecksUptoCard

/-- THE SECOND FORM's CARD OF 'pneumaticlaw13.StrokeReturns'. -/
def strokeReturnsUptoCard : Claim7 := { stood := { row := strokeReturnsUptoRow, standIns := [], harness := (true, "113f053f93c125b4ba77a5f7e14316501a53a8e9cdcb5b301a9b2e3a02f7ff35"), looks := true }, kinds := [], alts := [], laidByText := true, laidKinds := [.data, .data, .data, .data, .sentinel, .sentinel, .pinned], laidTests := true, laidLooks := .later }
def StrokeReturnsUptoCardSaid : Prop := Claim7.holds Tryd.pinned (.plain (OpenSpec.upto strokeReturnsSpec)) strokeReturnsUptoCard
end Rows
end Go.Proofs.YtbiifgojhljkjaaDoor
