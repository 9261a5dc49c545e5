/- The plain laws of numbers: lexer_Number, lexer_Value and the reference's. No program in sight. -/
import Derived.Test.YtcgmhlakihjbkaaGreatDoorLawP
import Derived.Test.YtcgmhlakihjbkaaGreatDoorLibN
set_option linter.unusedVariables false
set_option linter.unusedSimpArgs false
set_option maxHeartbeats 2000000
namespace Go.Proofs.YtcgmhlakihjbkaaGreatDoor.W
open Go Go.RowKit
instance (s : List UInt8) : Decidable (noLead s) := by unfold noLead; infer_instance
end Go.Proofs.YtcgmhlakihjbkaaGreatDoor.W
