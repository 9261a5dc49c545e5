/- The program's variables as they stand at first. -/
import Derived.Test.YtbiifgojhljkjaaDoorExt
import Derived.Test.YtbiifgojhljkjaaDoorLibG
set_option linter.unusedVariables false
namespace Go.Proofs.YtbiifgojhljkjaaDoor.W
open Go Go.RowKit
theorem glob_start {W : World} (h : W.ShapedOpen Tryd.prog) (t : Lib.TabIs Tryd.prog W "internal/strconv.uint64pow10" .u64 Lib.pow10Tab) : Glob (hp W) := ⟨trivial, W, Le.refl _, t, Tryd.laysM143.s1_3 W h⟩
end Go.Proofs.YtbiifgojhljkjaaDoor.W
