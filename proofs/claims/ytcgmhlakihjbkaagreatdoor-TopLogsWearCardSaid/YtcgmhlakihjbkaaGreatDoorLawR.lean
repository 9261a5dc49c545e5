/- The plain laws of strokes, fifth part: Parse; the laws StrokeParses and StrokeReads. No program in sight. -/
import Derived.Test.YtcgmhlakihjbkaaGreatDoorLawQ
set_option linter.unusedVariables false
set_option linter.unusedSimpArgs false
set_option maxHeartbeats 2000000
namespace Go.Proofs.YtcgmhlakihjbkaaGreatDoor.W
open Go Go.RowKit
/-! ### pieces of a text -/
/-! ### a step -/
/-! ### a text -/
/-! ### equal lists of steps -/
end Go.Proofs.YtcgmhlakihjbkaaGreatDoor.W
