/- The types of the plain functions. Written by our own program gen.py; Lean checks it. -/
import Derived.Test.YtllhdlnnlckceaaDoorExt
set_option linter.unusedVariables false
set_option maxRecDepth 100000
namespace Go.Proofs.YtllhdlnnlckceaaDoor.W
open Go Go.RowKit

end Go.Proofs.YtllhdlnnlckceaaDoor.W
