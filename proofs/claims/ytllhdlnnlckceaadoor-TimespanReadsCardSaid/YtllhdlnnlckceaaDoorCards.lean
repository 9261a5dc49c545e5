/-
  DERIVED. GIVEN WITH THE SEED: THE CARDS: each row of YtllhdlnnlckceaaDoorRows.lean that lists a variable, with what it lists TIED to the program's text (the seventh form; the later family's looks); each row that meets fmt, with fmt's text TOLD by the authors' own Lean function (tested against real Go, not proved from fmt's source: count such statements apart). THE CARD IS WHAT COUNTS. Prove the row's statement (the work); the ties are given (YtllhdlnnlckceaaDoorTie.lean); close each card by the builder's one call (the guide's Derived/Test/ToyasCard.lean, 'card_holds'). Laid BY PROGRAM, IN A SANDBOX (cutbox-door.mjs). By AI agents, Wed Nov 11 2026. No macro, syntax, notation, axiom, sorry.
-/
import Derived.Test.YtllhdlnnlckceaaDoorRows
import GoSem.ClaimSeven
namespace Go.Proofs.YtllhdlnnlckceaaDoor
namespace Rows

/-- THE TIED CARD OF 'pneumaticlaw03.TimespanTexts'. -/
def timespanTextsCard : Claim7 := { stood := { row := timespanTextsRow, standIns := [], harness := (true, "767657f169b784331ede1007d94ef8f793e112f1e150119fe354e0f8f4ec336b"), looks := true }, kinds := [], alts := [], laidByText := true, laidKinds := [.data, .data, .data, .data, .sentinel, .sentinel, .pinned], laidTests := true, laidLooks := .later }
def TimespanTextsCardSaid : Prop := Claim7.holds Tryd.pinned (.plain (OpenSpec.ofChange timespanTextsSpec)) timespanTextsCard

/-- THE TIED CARD OF 'pneumaticlaw03.TimespanCombines'. -/
def timespanCombinesCard : Claim7 := { stood := { row := timespanCombinesRow, standIns := [], harness := (true, "767657f169b784331ede1007d94ef8f793e112f1e150119fe354e0f8f4ec336b"), looks := true }, kinds := [], alts := [], laidByText := true, laidKinds := [.data, .data, .data, .data, .sentinel, .sentinel, .pinned], laidTests := true, laidLooks := .later }
def TimespanCombinesCardSaid : Prop := Claim7.holds Tryd.pinned (.plain (OpenSpec.ofChange timespanCombinesSpec)) timespanCombinesCard

/-- THE TIED CARD OF 'pneumaticlaw03.TimespanReads'. -/
def timespanReadsCard : Claim7 := { stood := { row := timespanReadsRow, standIns := [], harness := (true, "767657f169b784331ede1007d94ef8f793e112f1e150119fe354e0f8f4ec336b"), looks := true }, kinds := [], alts := [], laidByText := true, laidKinds := [.data, .data, .data, .data, .sentinel, .sentinel, .pinned], laidTests := true, laidLooks := .later }
def TimespanReadsCardSaid : Prop := Claim7.holds Tryd.pinned (.plain (OpenSpec.ofChange timespanReadsSpec)) timespanReadsCard

/-- THE TIED CARD OF 'pneumaticlaw03.TimespanOrders'. -/
def timespanOrdersCard : Claim7 := { stood := { row := timespanOrdersRow, standIns := [], harness := (true, "767657f169b784331ede1007d94ef8f793e112f1e150119fe354e0f8f4ec336b"), looks := true }, kinds := [], alts := [], laidByText := true, laidKinds := [.data, .data, .data, .data, .sentinel, .sentinel, .pinned], laidTests := true, laidLooks := .later }
def TimespanOrdersCardSaid : Prop := Claim7.holds Tryd.pinned (.plain (OpenSpec.ofChange timespanOrdersSpec)) timespanOrdersCard

/-- THE TIED CARD OF 'pneumaticlaw03.TimespanMeets'. -/
def timespanMeetsCard : Claim7 := { stood := { row := timespanMeetsRow, standIns := [], harness := (true, "767657f169b784331ede1007d94ef8f793e112f1e150119fe354e0f8f4ec336b"), looks := true }, kinds := [], alts := [], laidByText := true, laidKinds := [.data, .data, .data, .data, .sentinel, .sentinel, .pinned], laidTests := true, laidLooks := .later }
def TimespanMeetsCardSaid : Prop := Claim7.holds Tryd.pinned (.plain (OpenSpec.ofChange timespanMeetsSpec)) timespanMeetsCard

/-- THE TIED CARD OF 'pneumaticlaw03.TimespanAdds'. -/
def timespanAddsCard : Claim7 := { stood := { row := timespanAddsRow, standIns := [], harness := (true, "767657f169b784331ede1007d94ef8f793e112f1e150119fe354e0f8f4ec336b"), looks := true }, kinds := [], alts := [], laidByText := true, laidKinds := [.data, .data, .data, .data, .sentinel, .sentinel, .pinned], laidTests := true, laidLooks := .later }
def TimespanAddsCardSaid : Prop := Claim7.holds Tryd.pinned (.plain (OpenSpec.ofChange timespanAddsSpec)) timespanAddsCard

/-- THE TIED CARD OF 'pneumaticlaw03.TimespanAgrees'. -/
def timespanAgreesCard : Claim7 := { stood := { row := timespanAgreesRow, standIns := [], harness := (true, "767657f169b784331ede1007d94ef8f793e112f1e150119fe354e0f8f4ec336b"), looks := true }, kinds := [], alts := [], laidByText := true, laidKinds := [.data, .data, .data, .data, .sentinel, .sentinel, .pinned], laidTests := true, laidLooks := .later }
def TimespanAgreesCardSaid : Prop := Claim7.holds Tryd.pinned (.plain (OpenSpec.ofChange timespanAgreesSpec)) timespanAgreesCard

/-- THE TIED CARD OF 'pneumaticlaw03.TimespanSums'. -/
def timespanSumsCard : Claim7 := { stood := { row := timespanSumsRow, standIns := [], harness := (true, "767657f169b784331ede1007d94ef8f793e112f1e150119fe354e0f8f4ec336b"), looks := true }, kinds := [], alts := [], laidByText := true, laidKinds := [.data, .data, .data, .data, .sentinel, .sentinel, .pinned], laidTests := true, laidLooks := .later }
def TimespanSumsCardSaid : Prop := Claim7.holds Tryd.pinned (.plain (OpenSpec.ofChange timespanSumsSpec)) timespanSumsCard

/-- THE SECOND FORM's CARD OF 'pneumaticlaw03.TimespanTexts'. -/
def timespanTextsUptoCard : Claim7 := { stood := { row := timespanTextsUptoRow, standIns := [], harness := (true, "767657f169b784331ede1007d94ef8f793e112f1e150119fe354e0f8f4ec336b"), looks := true }, kinds := [], alts := [], laidByText := true, laidKinds := [.data, .data, .data, .data, .sentinel, .sentinel, .pinned], laidTests := true, laidLooks := .later }
def TimespanTextsUptoCardSaid : Prop := Claim7.holds Tryd.pinned (.plain (OpenSpec.upto timespanTextsSpec)) timespanTextsUptoCard

/-- THE SECOND FORM's CARD OF 'pneumaticlaw03.TimespanCombines'. -/
def timespanCombinesUptoCard : Claim7 := { stood := { row := timespanCombinesUptoRow, standIns := [], harness := (true, "767657f169b784331ede1007d94ef8f793e112f1e150119fe354e0f8f4ec336b"), looks := true }, kinds := [], alts := [], laidByText := true, laidKinds := [.data, .data, .data, .data, .sentinel, .sentinel, .pinned], laidTests := true, laidLooks := .later }
def TimespanCombinesUptoCardSaid : Prop := Claim7.holds Tryd.pinned (.plain (OpenSpec.upto timespanCombinesSpec)) timespanCombinesUptoCard

/-- THE SECOND FORM's CARD OF 'pneumaticlaw03.TimespanReads'. -/
def timespanReadsUptoCard : Claim7 := { stood := { row := timespanReadsUptoRow, standIns := [], harness := (true, "767657f169b784331ede1007d94ef8f793e112f1e150119fe354e0f8f4ec336b"), looks := true }, kinds := [], alts := [], laidByText := true, laidKinds := [.data, .data, .data, .data, .sentinel, .sentinel, .pinned], laidTests := true, laidLooks := .later }
def TimespanReadsUptoCardSaid : Prop := Claim7.holds Tryd.pinned (.plain (OpenSpec.upto timespanReadsSpec)) timespanReadsUptoCard

/-- THE SECOND FORM's CARD OF 'pneumaticlaw03.TimespanOrders'. -/
def timespanOrdersUptoCard : Claim7 := { stood := { row := timespanOrdersUptoRow, standIns := [], harness := (true, "767657f169b784331ede1007d94ef8f793e112f1e150119fe354e0f8f4ec336b"), looks := true }, kinds := [], alts := [], laidByText := true, laidKinds := [.data, .data, .data, .data, .sentinel, .sentinel, .pinned], laidTests := true, laidLooks := .later }
def TimespanOrdersUptoCardSaid : Prop := Claim7.holds Tryd.pinned (.plain (OpenSpec.upto timespanOrdersSpec)) timespanOrdersUptoCard

/-- THE SECOND FORM's CARD OF 'pneumaticlaw03.TimespanMeets'. -/
def timespanMeetsUptoCard : Claim7 := { stood := { row := timespanMeetsUptoRow, standIns := [], harness := (true, "767657f169b784331ede1007d94ef8f793e112f1e150119fe354e0f8f4ec336b"), looks := true }, kinds := [], alts := [], laidByText := true, laidKinds := [.data, .data, .data, .data, .sentinel, .sentinel, .pinned], laidTests := true, laidLooks := .later }
def TimespanMeetsUptoCardSaid : Prop := Claim7.holds Tryd.pinned (.plain (OpenSpec.upto timespanMeetsSpec)) timespanMeetsUptoCard

/-- THE SECOND FORM's CARD OF 'pneumaticlaw03.TimespanAdds'. -/
def timespanAddsUptoCard : Claim7 := { stood := { row := timespanAddsUptoRow, standIns := [], harness := (true, "767657f169b784331ede1007d94ef8f793e112f1e150119fe354e0f8f4ec336b"), looks := true }, kinds := [], alts := [], laidByText := true, laidKinds := [.data, .data, .data, .data, .sentinel, .sentinel, .pinned], laidTests := true, laidLooks := .later }
def TimespanAddsUptoCardSaid : Prop := Claim7.holds Tryd.pinned (.plain (OpenSpec.upto timespanAddsSpec)) timespanAddsUptoCard

/-- THE SECOND FORM's CARD OF 'pneumaticlaw03.TimespanAgrees'. -/
def timespanAgreesUptoCard : Claim7 := { stood := { row := timespanAgreesUptoRow, standIns := [], harness := (true, "767657f169b784331ede1007d94ef8f793e112f1e150119fe354e0f8f4ec336b"), looks := true }, kinds := [], alts := [], laidByText := true, laidKinds := [.data, .data, .data, .data, .sentinel, .sentinel, .pinned], laidTests := true, laidLooks := .later }
def TimespanAgreesUptoCardSaid : Prop := Claim7.holds Tryd.pinned (.plain (OpenSpec.upto timespanAgreesSpec)) timespanAgreesUptoCard

/-- THE SECOND FORM's CARD OF 'pneumaticlaw03.TimespanSums'. -/
def timespanSumsUptoCard : Claim7 := { stood := { row := timespanSumsUptoRow, standIns := [], harness := (true, "767657f169b784331ede1007d94ef8f793e112f1e150119fe354e0f8f4ec336b"), looks := true }, kinds := [], alts := [], laidByText := true, laidKinds := [.data, .data, .data, .data, .sentinel, .sentinel, .pinned], laidTests := true, laidLooks := .later }
def TimespanSumsUptoCardSaid : Prop := Claim7.holds Tryd.pinned (.plain (OpenSpec.upto timespanSumsSpec)) timespanSumsUptoCard
end Rows
end Go.Proofs.YtllhdlnnlckceaaDoor
