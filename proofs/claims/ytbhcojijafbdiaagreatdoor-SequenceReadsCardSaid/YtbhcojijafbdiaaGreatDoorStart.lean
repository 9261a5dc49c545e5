/- The program's variables as they stand at first. -/
import Derived.Test.YtbhcojijafbdiaaGreatDoorExt
import Derived.Test.YtbhcojijafbdiaaGreatDoorLibG
set_option linter.unusedVariables false
namespace Go.Proofs.YtbhcojijafbdiaaGreatDoor.W
open Go Go.RowKit
theorem glob_start {W : World} (h : W.ShapedOpen Tryz.prog) (t : Lib.TabIs Tryz.prog W "internal/strconv.uint64pow10" .u64 Lib.pow10Tab) : Glob (hp W) := ⟨trivial, W, Le.refl _, t, Tryz.laysM143.s1_3 W h⟩
end Go.Proofs.YtbhcojijafbdiaaGreatDoor.W
