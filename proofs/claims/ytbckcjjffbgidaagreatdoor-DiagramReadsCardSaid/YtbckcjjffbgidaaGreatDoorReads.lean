/- What the laws' arguments read as. Written by our own program card.py; Lean checks it. -/
import Derived.Test.YtbckcjjffbgidaaGreatDoorLibN
import Derived.Test.YtbckcjjffbgidaaGreatDoorTypes
import Derived.Test.YtbckcjjffbgidaaGreatDoorProg
set_option linter.unusedVariables false
set_option maxRecDepth 100000
namespace Go.Proofs.YtbckcjjffbgidaaGreatDoor.W
open Go Go.RowKit Go.ChangeShapes
section
variable {H : Type} {enc : TypeId × Value → H} {W : World}

end
end Go.Proofs.YtbckcjjffbgidaaGreatDoor.W
