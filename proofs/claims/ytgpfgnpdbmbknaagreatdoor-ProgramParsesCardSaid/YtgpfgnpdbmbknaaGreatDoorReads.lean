/- What the laws' arguments read as. Written by our own program card.py; Lean checks it. -/
import Derived.Test.YtgpfgnpdbmbknaaGreatDoorLibN
import Derived.Test.YtgpfgnpdbmbknaaGreatDoorTypes
import Derived.Test.YtgpfgnpdbmbknaaGreatDoorProg
set_option linter.unusedVariables false
set_option maxRecDepth 100000
namespace Go.Proofs.YtgpfgnpdbmbknaaGreatDoor.W
open Go Go.RowKit Go.ChangeShapes
section
variable {H : Type} {enc : TypeId × Value → H} {W : World}

end
end Go.Proofs.YtgpfgnpdbmbknaaGreatDoor.W
