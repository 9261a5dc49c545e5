/- Decimal numerals as lists of bytes: plain lists, no program. -/
import Derived.Test.YtcgmhlakihjbkaaGreatDoorLibG
import Derived.Lib.ItoaNum
import Derived.Lib.IndexMore
set_option linter.unusedVariables false
set_option linter.unusedSimpArgs false
namespace Go.Proofs.YtcgmhlakihjbkaaGreatDoor.W
open Go
/-- no zero ahead of other digits -/
def noLead (s : List UInt8) : Prop := s.length ≤ 1 ∨ s.head? ≠ some 48
end Go.Proofs.YtcgmhlakihjbkaaGreatDoor.W
