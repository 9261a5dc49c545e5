/- Plain functions of another seat's, for the laws that speak of them. No program in sight. -/
import Derived.Test.YtbhcojijafbdiaaGreatDoorPlain
set_option linter.unusedVariables false
set_option maxRecDepth 100000
namespace Go.Proofs.YtbhcojijafbdiaaGreatDoor.W
open Go Go.RowKit
def ref13_Few (p_x : Step) (p_ends : (List Bool)) : Option Bool :=
  some ((decide ((p_x.strokes.length : Int) ≤ 40)) && (decide ((p_ends.length : Int) ≤ 40)))

def stroke_Check (p_x : Stroke) : Option Int :=
  (stroke_known p_x.actuator).bind fun r1 =>
  if (!r1) = true then
  some 2
  else
  some 0

def stroke_Opposite (p_x : Stroke) : Option (Stroke × Int) :=
  (stroke_Check p_x).bind fun r1 =>
  if (r1 != 0) = true then
  some ((Stroke.mk 0 false), r1)
  else
  some ((Stroke.mk p_x.actuator (!p_x.out)), 0)

def ref13_Check (p_x : Stroke) : Option Int :=
  (ref13_Actuator p_x.actuator).bind fun r1 =>
  if (!r1) = true then
  some 2
  else
  some 0

def ref13_Turned (p_x : Stroke) : Option Stroke :=
  some (Stroke.mk p_x.actuator (!p_x.out))

def ref13_Opposite (p_x : Stroke) : Option (Stroke × Int) :=
  (ref13_Check p_x).bind fun r1 =>
  if (r1 != 0) = true then
  some ((Stroke.mk 0 false), r1)
  else
  (ref13_Turned p_x).bind fun r2 =>
    some (r2, 0)

def stroke_Text (p_x : Stroke) : Option ((List UInt8) × Int) :=
  (stroke_Check p_x).bind fun r1 =>
  if (r1 != 0) = true then
  some ([], r1)
  else
  (stroke_written p_x).bind fun r2 =>
    some (r2, 0)

def ref13_Text (p_x : Stroke) : Option ((List UInt8) × Int) :=
  (ref13_Check p_x).bind fun r1 =>
  if (r1 != 0) = true then
  some ([], r1)
  else
  (ref13_Written p_x).bind fun r2 =>
    some (r2, 0)

def stroke_Fits (p_x : Step) (p_ends : (List Bool)) : Option (Bool × Int) :=
  (stroke_given p_x p_ends).bind fun r1 =>
  if (r1 != 0) = true then
  some (false, r1)
  else
  (stroke_fits p_x p_ends).bind fun r2 =>
    some (r2, 0)

def ref13_given (p_x : Step) (p_ends : (List Bool)) : Option Int :=
  (ref13_CheckStep p_x).bind fun r1 =>
  if (r1 != 0) = true then
  some r1
  else
  if (decide ((p_ends.length : Int) > 6)) = true then
    some 5
  else
    some 0

def ref13_Fits (p_x : Step) (p_ends : (List Bool)) : Option (Bool × Int) :=
  (ref13_given p_x p_ends).bind fun r1 =>
  if (r1 != 0) = true then
  some (false, r1)
  else
  (ref13_Suits p_x p_ends).bind fun r2 =>
    some (r2, 0)

def ref13_Apply (p_x : Step) (p_ends : (List Bool)) : Option ((List Bool) × Int) :=
  (ref13_given p_x p_ends).bind fun r1 =>
  if (r1 != 0) = true then
  some ([], r1)
  else
  (ref13_Suits p_x p_ends).bind fun r2 =>
    if (!r2) = true then
    some ([], 14)
  else
    (ref13_After p_x p_ends).bind fun r3 =>
      some (r3, 0)

def ref13_steps_loop1 (p_l : (List Step)) (k1 : (Option Int)) : Nat → Int → Option Int
  | 0, _ => none
  | m1 + 1, i1 => if (decide (i1 < (p_l.length : Int))) = true then
      (at? p_l i1).bind fun x1 =>
        (ref13_CheckStep x1).bind fun r1 =>
        if (r1 != 0) = true then
        some r1
      else
        ref13_steps_loop1 p_l k1 m1 (IntKind.wrap .i64 (i1 + 1))
    else
      k1
def ref13_steps (p_l : (List Step)) : Option Int :=
  if (decide ((p_l.length : Int) > 64)) = true then
  some 5
  else
  joinK (some 0) fun k1 =>
    ref13_steps_loop1 p_l k1 (Int.toNat ((p_l.length : Int) - 0) + 1) 0

def ref13_Format (p_l : (List Step)) : Option ((List UInt8) × Int) :=
  (ref13_steps p_l).bind fun r1 =>
  if (r1 != 0) = true then
  some ([], r1)
  else
  (ref13_Lines p_l).bind fun r2 =>
    some (r2, 0)

def ref13_Has (p_x : Step) (p_actuator : Int) : Option (Int × Int) :=
  (ref13_CheckStep p_x).bind fun r1 =>
  if (r1 != 0) = true then
  some (0, r1)
  else
  (ref13_Actuator p_actuator).bind fun r2 =>
    if (!r2) = true then
    some (0, 2)
  else
    (ref13_Way p_x p_actuator).bind fun r3 =>
      some (r3, 0)

end Go.Proofs.YtbhcojijafbdiaaGreatDoor.W
