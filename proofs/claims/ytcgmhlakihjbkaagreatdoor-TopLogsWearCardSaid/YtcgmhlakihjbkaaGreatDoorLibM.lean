/- Our own calculus, thirteenth part: functions against nil; regions that draw, inside a round. A general text: it names no program. -/
import Derived.Test.YtcgmhlakihjbkaaGreatDoorLibL
import Derived.OrdersIn
set_option linter.unusedVariables false
set_option linter.unusedSimpArgs false
namespace Go.Proofs.YtcgmhlakihjbkaaGreatDoor.W
open Go Go.RowKit
section
variable {F : Fence} [Free F] {P : Program} {n : Nat} {o : Oper}
end
end Go.Proofs.YtcgmhlakihjbkaaGreatDoor.W
