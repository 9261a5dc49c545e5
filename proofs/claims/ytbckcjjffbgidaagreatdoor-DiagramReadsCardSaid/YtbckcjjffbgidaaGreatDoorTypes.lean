/- The types of the plain functions. Written by our own program gen.py; Lean checks it. -/
import Derived.Test.YtbckcjjffbgidaaGreatDoorLibP
set_option linter.unusedVariables false
set_option maxRecDepth 100000
set_option maxHeartbeats 4000000
namespace Go.Proofs.YtbckcjjffbgidaaGreatDoor.W
open Go Go.RowKit
structure Stroke where
  actuator : Int
  out : Bool
  deriving DecidableEq, Repr
def encStroke : Enc Stroke := Enc.flat 2 (fun x => [(.int .i64 x.actuator), (.bool x.out)]) (fun _ => rfl)
theorem one_encStroke : ∀ H x cs, encStroke.rep H x cs → cs.all (·.oneCell') = true := fun _ _ _ h => by cases h; rfl
structure Step where
  strokes : List Stroke
  wait : Int
  deriving DecidableEq, Repr
def encStep : Enc Step where
  size := 2
  rep := fun H x cs => ∃ (ao1 : Option Addr) (cap1 : Nat), cs = [(.slice ao1 x.strokes.length cap1), (.int .i64 x.wait)] ∧ SL H encStroke ao1 x.strokes ∧ x.strokes.length ≤ cap1
  len := fun h => by obtain ⟨_, _, rfl, _⟩ := h; rfl
  mono := fun k h => by
    obtain ⟨ao1, cap1, rfl, h1, hc1⟩ := h
    exact ⟨ao1, cap1, rfl, h1.mono k, hc1⟩
structure Sequence where
  actuators : Int
  steps : List Step
  deriving DecidableEq, Repr
def encSequence : Enc Sequence where
  size := 2
  rep := fun H x cs => ∃ (ao1 : Option Addr) (cap1 : Nat), cs = [(.int .i64 x.actuators), (.slice ao1 x.steps.length cap1)] ∧ SL H encStep ao1 x.steps ∧ x.steps.length ≤ cap1
  len := fun h => by obtain ⟨_, _, rfl, _⟩ := h; rfl
  mono := fun k h => by
    obtain ⟨ao1, cap1, rfl, h1, hc1⟩ := h
    exact ⟨ao1, cap1, rfl, h1.mono k, hc1⟩
structure Cell where
  first : Int
  second : Int
  deriving DecidableEq, Repr
def encCell : Enc Cell := Enc.flat 2 (fun x => [(.int .u8 x.first), (.int .u8 x.second)]) (fun _ => rfl)
theorem one_encCell : ∀ H x cs, encCell.rep H x cs → cs.all (·.oneCell') = true := fun _ _ _ h => by cases h; rfl
structure Ends6 where
  a0 : Bool
  a1 : Bool
  a2 : Bool
  a3 : Bool
  a4 : Bool
  a5 : Bool
  deriving DecidableEq, Repr
def encEnds6 : Enc Ends6 := Enc.flat 6 (fun x => [(.bool x.a0), (.bool x.a1), (.bool x.a2), (.bool x.a3), (.bool x.a4), (.bool x.a5)]) (fun _ => rfl)
theorem one_encEnds6 : ∀ H x cs, encEnds6.rep H x cs → cs.all (·.oneCell') = true := fun _ _ _ h => by cases h; rfl
end Go.Proofs.YtbckcjjffbgidaaGreatDoor.W
