/- The plain laws of strokes, fourth part: Parse; the law StrokeParses. No program in sight. -/
import Derived.Test.YtcgmhlakihjbkaaGreatDoorLawP
import Derived.Test.YtcgmhlakihjbkaaGreatDoorNum
set_option linter.unusedVariables false
set_option linter.unusedSimpArgs false
set_option maxHeartbeats 2000000
namespace Go.Proofs.YtcgmhlakihjbkaaGreatDoor.W
open Go Go.RowKit
/-! ### words that are strokes -/
/-! ### words that are delays -/
end Go.Proofs.YtcgmhlakihjbkaaGreatDoor.W
