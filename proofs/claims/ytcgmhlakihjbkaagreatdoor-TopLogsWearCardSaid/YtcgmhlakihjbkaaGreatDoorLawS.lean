/- The plain laws of strokes, sixth part: texts are read back; the law StrokeReads. No program in sight. -/
import Derived.Test.YtcgmhlakihjbkaaGreatDoorLawR
set_option linter.unusedVariables false
set_option linter.unusedSimpArgs false
set_option maxHeartbeats 2000000
namespace Go.Proofs.YtcgmhlakihjbkaaGreatDoor.W
open Go Go.RowKit
/-! ### the words of a step -/
/-! ### a step is read back -/
/-! ### a text is written again -/
end Go.Proofs.YtcgmhlakihjbkaaGreatDoor.W
