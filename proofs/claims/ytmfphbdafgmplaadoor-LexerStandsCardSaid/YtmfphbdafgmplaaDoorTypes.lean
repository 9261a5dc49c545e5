/- The types of the plain functions. Written by our own program gen.py; Lean checks it. -/
import Derived.Test.YtmfphbdafgmplaaDoorLibH
import Derived.Test.YtmfphbdafgmplaaDoorLibM
set_option linter.unusedVariables false
set_option maxRecDepth 100000
set_option maxHeartbeats 4000000
namespace Go.Proofs.YtmfphbdafgmplaaDoor.W
open Go Go.RowKit
structure Token where
  kind : Int
  text : List UInt8
  at_ : Int
  deriving DecidableEq, Repr
def encToken : Enc Token := Enc.flat 3 (fun x => [(.int .i64 x.kind), (mkS x.text), (.int .i64 x.at_)]) (fun _ => rfl)
theorem one_encToken : ∀ H x cs, encToken.rep H x cs → cs.all (·.oneCell') = true := fun _ _ _ h => by cases h; rfl
structure B3 where
  a0 : Int
  a1 : Int
  a2 : Int
  deriving DecidableEq, Repr
def encB3 : Enc B3 := Enc.flat 3 (fun x => [(.int .u8 x.a0), (.int .u8 x.a1), (.int .u8 x.a2)]) (fun _ => rfl)
theorem one_encB3 : ∀ H x cs, encB3.rep H x cs → cs.all (·.oneCell') = true := fun _ _ _ h => by cases h; rfl
end Go.Proofs.YtmfphbdafgmplaaDoor.W
