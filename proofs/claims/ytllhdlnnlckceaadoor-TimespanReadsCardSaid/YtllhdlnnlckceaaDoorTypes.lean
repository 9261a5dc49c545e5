/- The types of the plain functions. Written by our own program gen.py; Lean checks it. -/
import Derived.Test.YtllhdlnnlckceaaDoorExt
set_option linter.unusedVariables false
set_option maxRecDepth 100000
namespace Go.Proofs.YtllhdlnnlckceaaDoor.W
open Go Go.RowKit
structure Span where
  low : Int
  high : Int
  deriving DecidableEq, Repr
def encSpan : Enc Span := Enc.flat 2 (fun x => [(.int .i64 x.low), (.int .i64 x.high)]) (fun _ => rfl)
structure B3 where
  a0 : Int
  a1 : Int
  a2 : Int
  deriving DecidableEq, Repr
def encB3 : Enc B3 := Enc.flat 3 (fun x => [(.int .u16 x.a0), (.int .u16 x.a1), (.int .u16 x.a2)]) (fun _ => rfl)
end Go.Proofs.YtllhdlnnlckceaaDoor.W
