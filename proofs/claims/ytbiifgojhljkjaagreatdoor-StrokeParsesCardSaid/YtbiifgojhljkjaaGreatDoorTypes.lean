/- The types of the plain functions. Written by our own program gen.py; Lean checks it. -/
import Derived.Test.YtbiifgojhljkjaaGreatDoorLibH
import Derived.Test.YtbiifgojhljkjaaGreatDoorLibM
set_option linter.unusedVariables false
set_option maxRecDepth 100000
set_option maxHeartbeats 4000000
namespace Go.Proofs.YtbiifgojhljkjaaGreatDoor.W
open Go Go.RowKit
structure Stroke where
  actuator : Int
  out : Bool
  deriving DecidableEq, Repr
def encStroke : Enc Stroke := Enc.flat 2 (fun x => [(.int .i64 x.actuator), (.bool x.out)]) (fun _ => rfl)
theorem one_encStroke : ∀ H x cs, encStroke.rep H x cs → cs.all (·.oneCell') = true := fun _ _ _ h => by cases h; rfl
structure Step where
  strokes : List Stroke
  wait : Int
  deriving DecidableEq, Repr
def encStep : Enc Step where
  size := 2
  rep := fun H x cs => ∃ (ao1 : Option Addr) (cap1 : Nat), cs = [(.slice ao1 x.strokes.length cap1), (.int .i64 x.wait)] ∧ SL H encStroke ao1 x.strokes ∧ x.strokes.length ≤ cap1
  len := fun h => by obtain ⟨_, _, rfl, _⟩ := h; rfl
  mono := fun k h => by
    obtain ⟨ao1, cap1, rfl, h1, hc1⟩ := h
    exact ⟨ao1, cap1, rfl, h1.mono k, hc1⟩
structure Case where
  s : List UInt8
  at_ : Int
  e : Int
  deriving DecidableEq, Repr
def encCase : Enc Case := Enc.flat 3 (fun x => [(mkS x.s), (.int .i64 x.at_), (.int .i64 x.e)]) (fun _ => rfl)
theorem one_encCase : ∀ H x cs, encCase.rep H x cs → cs.all (·.oneCell') = true := fun _ _ _ h => by cases h; rfl
end Go.Proofs.YtbiifgojhljkjaaGreatDoor.W
