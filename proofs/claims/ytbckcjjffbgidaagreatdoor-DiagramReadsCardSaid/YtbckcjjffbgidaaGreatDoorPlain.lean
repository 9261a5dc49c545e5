/- The plain functions. Written by our own program gen.py; Lean checks it. -/
import Derived.Test.YtbckcjjffbgidaaGreatDoorTypes
import Derived.Test.YtbckcjjffbgidaaGreatDoorExt
set_option linter.unusedVariables false
set_option maxRecDepth 100000
set_option maxHeartbeats 4000000
namespace Go.Proofs.YtbckcjjffbgidaaGreatDoor.W
open Go Go.RowKit
def slices_IndexFunc_stringstring_diagram_given_1_loop1 (p_s : (List (List UInt8))) (k1 : (Option Int)) : Nat → Int → Option Int
 | 0, _ => none
 | m1 + 1, i1 => if (decide (i1 < (p_s.length : Int))) = true then
  (at? p_s i1).bind fun x1 =>
   if (decide ((x1.length : Int) > 4096)) = true then
   some i1
  else
   slices_IndexFunc_stringstring_diagram_given_1_loop1 p_s k1 m1 (IntKind.wrap .i64 (i1 + 1))
  else
   k1
def slices_IndexFunc_stringstring_diagram_given_1 (p_s : (List (List UInt8))) : Option Int :=
 joinK (some (-1)) fun k1 =>
 slices_IndexFunc_stringstring_diagram_given_1_loop1 p_s k1 (Int.toNat ((p_s.length : Int) - 0) + 1) 0

def slices_ContainsFunc_stringstring_diagram_given_1 (p_s : (List (List UInt8))) : Option Bool :=
 (slices_IndexFunc_stringstring_diagram_given_1 p_s).bind fun r1 =>
 some (decide (r1 ≥ 0))

def slices_IndexFunc_api_Stepapi_Step_diagram_draw_1_loop1 (p_s : (List Step)) (k1 : (Option Int)) : Nat → Int → Option Int
 | 0, _ => none
 | m1 + 1, i1 => if (decide (i1 < (p_s.length : Int))) = true then
  (at? p_s i1).bind fun x1 =>
   if (x1.wait != 0) = true then
   some i1
  else
   slices_IndexFunc_api_Stepapi_Step_diagram_draw_1_loop1 p_s k1 m1 (IntKind.wrap .i64 (i1 + 1))
  else
   k1
def slices_IndexFunc_api_Stepapi_Step_diagram_draw_1 (p_s : (List Step)) : Option Int :=
 joinK (some (-1)) fun k1 =>
 slices_IndexFunc_api_Stepapi_Step_diagram_draw_1_loop1 p_s k1 (Int.toNat ((p_s.length : Int) - 0) + 1) 0

def slices_ContainsFunc_api_Stepapi_Step_diagram_draw_1 (p_s : (List Step)) : Option Bool :=
 (slices_IndexFunc_api_Stepapi_Step_diagram_draw_1 p_s).bind fun r1 =>
 some (decide (r1 ≥ 0))

def sequence_ends_behind_loop1 (p_s : Step) (k1 : (Bool → Bool → Bool → Bool → Bool → Bool → Option Ends6)) : Nat → Int → Bool → Bool → Bool → Bool → Bool → Bool → Option Ends6
 | 0, _, _, _, _, _, _, _ => none
 | m1 + 1, i1, c1, c2, c3, c4, c5, c6 => if (decide (i1 < (p_s.strokes.length : Int))) = true then
  (at? p_s.strokes i1).bind fun x1 =>
   if (x1.actuator == 0) = true then
   sequence_ends_behind_loop1 p_s k1 m1 (IntKind.wrap .i64 (i1 + 1)) x1.out c2 c3 c4 c5 c6
  else
   if (x1.actuator == 1) = true then
    sequence_ends_behind_loop1 p_s k1 m1 (IntKind.wrap .i64 (i1 + 1)) c1 x1.out c3 c4 c5 c6
   else
    if (x1.actuator == 2) = true then
     sequence_ends_behind_loop1 p_s k1 m1 (IntKind.wrap .i64 (i1 + 1)) c1 c2 x1.out c4 c5 c6
    else
     if (x1.actuator == 3) = true then
      sequence_ends_behind_loop1 p_s k1 m1 (IntKind.wrap .i64 (i1 + 1)) c1 c2 c3 x1.out c5 c6
     else
      if (x1.actuator == 4) = true then
       sequence_ends_behind_loop1 p_s k1 m1 (IntKind.wrap .i64 (i1 + 1)) c1 c2 c3 c4 x1.out c6
      else
       if (x1.actuator == 5) = true then
        sequence_ends_behind_loop1 p_s k1 m1 (IntKind.wrap .i64 (i1 + 1)) c1 c2 c3 c4 c5 x1.out
       else
        none
  else
   k1 c1 c2 c3 c4 c5 c6
def sequence_ends_behind (p_x : Ends6) (p_s : Step) : Option Ends6 :=
 joinK (fun (c7 : Bool) (c8 : Bool) (c9 : Bool) (c10 : Bool) (c11 : Bool) (c12 : Bool) =>
  some (Ends6.mk c7 c8 c9 c10 c11 c12)) fun k1 =>
 sequence_ends_behind_loop1 p_s k1 (Int.toNat ((p_s.strokes.length : Int) - 0) + 1) 0 p_x.a0 p_x.a1 p_x.a2 p_x.a3 p_x.a4 p_x.a5

def ref13_SameStrokes_loop1 (p_a : (List Stroke)) (p_b : (List Stroke)) (k1 : (Option Bool)) : Nat → Int → Option Bool
 | 0, _ => none
 | m1 + 1, i1 => if (decide (i1 < (p_a.length : Int))) = true then
  (at? p_a i1).bind fun x1 =>
   (at? p_b i1).bind fun x2 =>
   if (!(x1 == x2)) = true then
   some false
  else
   ref13_SameStrokes_loop1 p_a p_b k1 m1 (IntKind.wrap .i64 (i1 + 1))
  else
   k1
def ref13_SameStrokes (p_a : (List Stroke)) (p_b : (List Stroke)) : Option Bool :=
 if ((p_a.length : Int) != (p_b.length : Int)) = true then
 some false
 else
 joinK (some true) fun k1 =>
  ref13_SameStrokes_loop1 p_a p_b k1 (Int.toNat ((p_a.length : Int) - 0) + 1) 0

def ref13_Same (p_a : Step) (p_b : Step) : Option Bool :=
 (if (p_a.wait == p_b.wait) = true then (ref13_SameStrokes p_a.strokes p_b.strokes).bind fun r1 =>
 some r1 else some false).bind fun c1 =>
 some c1

def ref13_SameSteps_loop1 (p_a : (List Step)) (p_b : (List Step)) (k1 : (Option Bool)) : Nat → Int → Option Bool
 | 0, _ => none
 | m1 + 1, i1 => if (decide (i1 < (p_a.length : Int))) = true then
  (at? p_a i1).bind fun x1 =>
   (at? p_b i1).bind fun x2 =>
   (ref13_Same x1 x2).bind fun r1 =>
   if (!r1) = true then
   some false
  else
   ref13_SameSteps_loop1 p_a p_b k1 m1 (IntKind.wrap .i64 (i1 + 1))
  else
   k1
def ref13_SameSteps (p_a : (List Step)) (p_b : (List Step)) : Option Bool :=
 if ((p_a.length : Int) != (p_b.length : Int)) = true then
 some false
 else
 joinK (some true) fun k1 =>
  ref13_SameSteps_loop1 p_a p_b k1 (Int.toNat ((p_a.length : Int) - 0) + 1) 0

def stroke_known (p_n : Int) : Option Bool :=
 some ((decide (p_n ≥ 0)) && (decide (p_n < 6)))

def stroke_CheckStep_loop1 (p_x : Step) (k1 : (Option Int)) : Nat → Int → Int → Option Int
 | 0, _, _ => none
 | m1 + 1, i1, i2 => if (decide (i2 < (p_x.strokes.length : Int))) = true then
  (at? p_x.strokes i2).bind fun x1 =>
   (stroke_known x1.actuator).bind fun r1 =>
   if (!r1) = true then
   some 2
  else
   if (x1.actuator == i1) = true then
    some 7
   else
    if (decide (x1.actuator < i1)) = true then
     some 9
    else
     stroke_CheckStep_loop1 p_x k1 m1 x1.actuator (IntKind.wrap .i64 (i2 + 1))
  else
   k1
def stroke_CheckStep (p_x : Step) : Option Int :=
 if ((p_x.strokes.length : Int) == 0) = true then
 some 13
 else
 if (decide ((p_x.strokes.length : Int) > 6)) = true then
  some 5
 else
  joinK (if ((decide (p_x.wait < 0)) || (decide (p_x.wait > 1000000))) = true then
   some 2
  else
   some 0) fun k1 =>
   stroke_CheckStep_loop1 p_x k1 (Int.toNat ((p_x.strokes.length : Int) - 0) + 1) (-1) 0

def ref13_Actuator (p_n : Int) : Option Bool :=
 some ((decide (p_n ≥ 0)) && (decide (p_n < 6)))

def ref03_Time (p_n : Int) : Option Bool :=
 some ((decide (p_n ≥ 0)) && (decide (p_n ≤ 1000000)))

def ref13_CheckStep_loop1 (p_x : Step) (k1 : (Option Int)) : Nat → Int → Option Int
 | 0, _ => none
 | m1 + 1, i1 => if (decide (i1 < (p_x.strokes.length : Int))) = true then
  (at? p_x.strokes i1).bind fun x1 =>
   (ref13_Actuator x1.actuator).bind fun r1 =>
   if (!r1) = true then
   some 2
  else
   (if (decide (i1 > 0)) = true then (at? p_x.strokes i1).bind fun x2 =>
    (at? p_x.strokes (IntKind.wrap .i64 (i1 - 1))).bind fun x3 =>
    some (x2.actuator == x3.actuator) else some false).bind fun c1 =>
    if c1 = true then
    some 7
   else
    (if (decide (i1 > 0)) = true then (at? p_x.strokes i1).bind fun x4 =>
     (at? p_x.strokes (IntKind.wrap .i64 (i1 - 1))).bind fun x5 =>
     some (decide (x4.actuator < x5.actuator)) else some false).bind fun c2 =>
     if c2 = true then
     some 9
    else
     ref13_CheckStep_loop1 p_x k1 m1 (IntKind.wrap .i64 (i1 + 1))
  else
   k1
def ref13_CheckStep (p_x : Step) : Option Int :=
 if ((p_x.strokes.length : Int) == 0) = true then
 some 13
 else
 if (decide ((p_x.strokes.length : Int) > 6)) = true then
  some 5
 else
  joinK ((ref03_Time p_x.wait).bind fun r2 =>
   if (!r2) = true then
   some 2
  else
   some 0) fun k1 =>
   ref13_CheckStep_loop1 p_x k1 (Int.toNat ((p_x.strokes.length : Int) - 0) + 1) 0

def ref13_Way_loop1 (p_x : Step) (p_actuator : Int) (k1 : (Option Int)) : Nat → Int → Option Int
 | 0, _ => none
 | m1 + 1, i1 => if (decide (i1 < (p_x.strokes.length : Int))) = true then
  (at? p_x.strokes i1).bind fun x1 =>
   if (x1.actuator == p_actuator) = true then
   (at? p_x.strokes i1).bind fun x2 =>
    if x2.out = true then
    some 1
   else
    some (-1)
  else
   ref13_Way_loop1 p_x p_actuator k1 m1 (IntKind.wrap .i64 (i1 + 1))
  else
   k1
def ref13_Way (p_x : Step) (p_actuator : Int) : Option Int :=
 joinK (some 0) fun k1 =>
 ref13_Way_loop1 p_x p_actuator k1 (Int.toNat ((p_x.strokes.length : Int) - 0) + 1) 0

def ref13_Suits_loop1 (p_x : Step) (p_ends : (List Bool)) (k1 : (Option Bool)) : Nat → Int → Option Bool
 | 0, _ => none
 | m1 + 1, i1 => if (decide (i1 < (p_x.strokes.length : Int))) = true then
  (at? p_x.strokes i1).bind fun x1 =>
   (if (decide (x1.actuator ≥ (p_ends.length : Int))) = true then some true else (at? p_ends x1.actuator).bind fun x2 =>
   some (x2 == x1.out)).bind fun c1 =>
   if c1 = true then
   some false
  else
   ref13_Suits_loop1 p_x p_ends k1 m1 (IntKind.wrap .i64 (i1 + 1))
  else
   k1
def ref13_Suits (p_x : Step) (p_ends : (List Bool)) : Option Bool :=
 joinK (some true) fun k1 =>
 ref13_Suits_loop1 p_x p_ends k1 (Int.toNat ((p_x.strokes.length : Int) - 0) + 1) 0

def ref13_After_loop1 (p_x : Step) (k1 : ((List Bool) → Option (List Bool))) : Nat → Int → (List Bool) → Option (List Bool)
 | 0, _, _ => none
 | m1 + 1, i1, l2 => if (decide (i1 < (p_x.strokes.length : Int))) = true then
  (at? p_x.strokes i1).bind fun x1 =>
   (at? p_x.strokes i1).bind fun x2 =>
   (at? l2 x1.actuator).bind fun x3 =>
   ref13_After_loop1 p_x k1 m1 (IntKind.wrap .i64 (i1 + 1)) (List.set l2 (Int.toNat x1.actuator) x2.out)
  else
   k1 l2
def ref13_After (p_x : Step) (p_ends : (List Bool)) : Option (List Bool) :=
 (appO 1 ([] : List Bool) p_ends).bind fun _ =>
 joinK (fun (l3 : (List Bool)) =>
  some l3) fun k1 =>
 ref13_After_loop1 p_x k1 (Int.toNat ((p_x.strokes.length : Int) - 0) + 1) 0 (([] : List Bool) ++ p_ends)

def ref14_Behind_loop1 (p_s : Sequence) (p_k : Int) (k1 : ((List Bool) → Option (List Bool))) : Nat → (List Bool) → Int → Option (List Bool)
 | 0, _, _ => none
 | m1 + 1, l1, i1 => if (decide (i1 < p_k)) = true then
  (at? p_s.steps i1).bind fun x1 =>
   (ref13_After x1 l1).bind fun r1 =>
   ref14_Behind_loop1 p_s p_k k1 m1 r1 (IntKind.wrap .i64 (i1 + 1))
  else
   k1 l1
def ref14_Behind (p_s : Sequence) (p_k : Int) : Option (List Bool) :=
 (guardO ((decide (0 ≤ p_s.actuators) && decide (p_s.actuators * 1 ≤ 140737488355328)) && decide (p_s.actuators ≤ 4611686018427387904))).bind fun _ =>
 joinK (fun (l2 : (List Bool)) =>
  some l2) fun k1 =>
 ref14_Behind_loop1 p_s p_k k1 (Int.toNat (p_k - 0) + 1) (List.replicate (Int.toNat p_s.actuators) false) 0

def slices_Index_intint_loop1 (p_s : (List Int)) (p_v : Int) (k1 : (Option Int)) : Nat → Int → Option Int
 | 0, _ => none
 | m1 + 1, i1 => if (decide (i1 < (p_s.length : Int))) = true then
  (at? p_s i1).bind fun x1 =>
   if (p_v == x1) = true then
   some i1
  else
   slices_Index_intint_loop1 p_s p_v k1 m1 (IntKind.wrap .i64 (i1 + 1))
  else
   k1
def slices_Index_intint (p_s : (List Int)) (p_v : Int) : Option Int :=
 joinK (some (-1)) fun k1 =>
 slices_Index_intint_loop1 p_s p_v k1 (Int.toNat ((p_s.length : Int) - 0) + 1) 0

def slices_Contains_intint (p_s : (List Int)) (p_v : Int) : Option Bool :=
 (slices_Index_intint p_s p_v).bind fun r1 =>
 some (decide (r1 ≥ 0))

def sequence_fits_loop1 (p_s : Sequence) (p_step : Step) (k1 : (Option Int)) : Nat → Int → Option Int
 | 0, _ => none
 | m1 + 1, i1 => if (decide (i1 < (p_step.strokes.length : Int))) = true then
  (at? p_step.strokes i1).bind fun x1 =>
   if (decide (x1.actuator ≥ p_s.actuators)) = true then
   some 6
  else
   sequence_fits_loop1 p_s p_step k1 m1 (IntKind.wrap .i64 (i1 + 1))
  else
   k1
def sequence_fits_loop2 (p_step : Step) (p_x : Ends6) (k2 : (Option Int)) : Nat → Int → Option Int
 | 0, _ => none
 | m2 + 1, i2 => if (decide (i2 < (p_step.strokes.length : Int))) = true then
  (at? p_step.strokes i2).bind fun x2 =>
   joinK (fun (c1 : Bool) =>
    if c1 = true then
     some 14
    else
     sequence_fits_loop2 p_step p_x k2 m2 (IntKind.wrap .i64 (i2 + 1))) fun k3 =>
   if (x2.actuator == 0) = true then
   k3 (p_x.a0 == x2.out)
  else
   if (x2.actuator == 1) = true then
    k3 (p_x.a1 == x2.out)
   else
    if (x2.actuator == 2) = true then
     k3 (p_x.a2 == x2.out)
    else
     if (x2.actuator == 3) = true then
      k3 (p_x.a3 == x2.out)
     else
      if (x2.actuator == 4) = true then
       k3 (p_x.a4 == x2.out)
      else
       if (x2.actuator == 5) = true then
        k3 (p_x.a5 == x2.out)
       else
        none
  else
   k2
def sequence_fits (p_s : Sequence) (p_step : Step) (p_x : Ends6) : Option Int :=
 (stroke_CheckStep p_step).bind fun r1 =>
 if (r1 != 0) = true then
 some r1
 else
 joinK (joinK (some 0) fun k2 =>
  sequence_fits_loop2 p_step p_x k2 (Int.toNat ((p_step.strokes.length : Int) - 0) + 1) 0) fun k1 =>
  sequence_fits_loop1 p_s p_step k1 (Int.toNat ((p_step.strokes.length : Int) - 0) + 1) 0

def slices_Index_boolbool_loop1 (p_s : (List Bool)) (p_v : Bool) (k1 : (Option Int)) : Nat → Int → Option Int
 | 0, _ => none
 | m1 + 1, i1 => if (decide (i1 < (p_s.length : Int))) = true then
  (at? p_s i1).bind fun x1 =>
   if (p_v == x1) = true then
   some i1
  else
   slices_Index_boolbool_loop1 p_s p_v k1 m1 (IntKind.wrap .i64 (i1 + 1))
  else
   k1
def slices_Index_boolbool (p_s : (List Bool)) (p_v : Bool) : Option Int :=
 joinK (some (-1)) fun k1 =>
 slices_Index_boolbool_loop1 p_s p_v k1 (Int.toNat ((p_s.length : Int) - 0) + 1) 0

def slices_Contains_boolbool (p_s : (List Bool)) (p_v : Bool) : Option Bool :=
 (slices_Index_boolbool p_s p_v).bind fun r1 =>
 some (decide (r1 ≥ 0))

def sequence_Check_loop2 (k2 : (Bool → Bool → Bool → Bool → Bool → Bool → Bool → Bool → Bool → Bool → Bool → Bool → Option Int)) (x1 : Step) (r2 : (Ends6)) : Nat → Int → Bool → Bool → Bool → Bool → Bool → Bool → Option Int
 | 0, _, _, _, _, _, _, _ => none
 | m2 + 1, i2, c13, c14, c15, c16, c17, c18 => if (decide (i2 < (x1.strokes.length : Int))) = true then
  (at? x1.strokes i2).bind fun x2 =>
   if (x2.actuator == 0) = true then
   sequence_Check_loop2 k2 x1 r2 m2 (IntKind.wrap .i64 (i2 + 1)) true c14 c15 c16 c17 c18
  else
   if (x2.actuator == 1) = true then
    sequence_Check_loop2 k2 x1 r2 m2 (IntKind.wrap .i64 (i2 + 1)) c13 true c15 c16 c17 c18
   else
    if (x2.actuator == 2) = true then
     sequence_Check_loop2 k2 x1 r2 m2 (IntKind.wrap .i64 (i2 + 1)) c13 c14 true c16 c17 c18
    else
     if (x2.actuator == 3) = true then
      sequence_Check_loop2 k2 x1 r2 m2 (IntKind.wrap .i64 (i2 + 1)) c13 c14 c15 true c17 c18
     else
      if (x2.actuator == 4) = true then
       sequence_Check_loop2 k2 x1 r2 m2 (IntKind.wrap .i64 (i2 + 1)) c13 c14 c15 c16 true c18
      else
       if (x2.actuator == 5) = true then
        sequence_Check_loop2 k2 x1 r2 m2 (IntKind.wrap .i64 (i2 + 1)) c13 c14 c15 c16 c17 true
       else
        none
  else
   k2 r2.a0 r2.a1 r2.a2 r2.a3 r2.a4 r2.a5 c13 c14 c15 c16 c17 c18
def sequence_Check_loop1 (p_s : Sequence) (k1 : (Bool → Bool → Bool → Bool → Bool → Bool → Bool → Bool → Bool → Bool → Bool → Bool → Option Int)) : Nat → Int → Bool → Bool → Bool → Bool → Bool → Bool → Bool → Bool → Bool → Bool → Bool → Bool → Option Int
 | 0, _, _, _, _, _, _, _, _, _, _, _, _, _ => none
 | m1 + 1, i1, c1, c2, c3, c4, c5, c6, c7, c8, c9, c10, c11, c12 => if (decide (i1 < (p_s.steps.length : Int))) = true then
  joinK (fun (c19 : Bool) (c20 : Bool) (c21 : Bool) (c22 : Bool) (c23 : Bool) (c24 : Bool) (c25 : Bool) (c26 : Bool) (c27 : Bool) (c28 : Bool) (c29 : Bool) (c30 : Bool) =>
   sequence_Check_loop1 p_s k1 m1 (IntKind.wrap .i64 (i1 + 1)) c19 c20 c21 c22 c23 c24 c25 c26 c27 c28 c29 c30) fun k2 =>
   (at? p_s.steps i1).bind fun x1 =>
   (sequence_fits p_s x1 (Ends6.mk c1 c2 c3 c4 c5 c6)).bind fun r1 =>
   if (r1 != 0) = true then
   some r1
  else
   (sequence_ends_behind (Ends6.mk c1 c2 c3 c4 c5 c6) x1).bind fun r2 =>
    sequence_Check_loop2 k2 x1 r2 (Int.toNat ((x1.strokes.length : Int) - 0) + 1) 0 c7 c8 c9 c10 c11 c12
  else
   k1 c1 c2 c3 c4 c5 c6 c7 c8 c9 c10 c11 c12
def sequence_Check (p_s : Sequence) : Option Int :=
 if ((decide (p_s.actuators < 1)) || (decide (p_s.actuators > 6))) = true then
 some 2
 else
 if ((p_s.steps.length : Int) == 0) = true then
  some 13
 else
  if (decide ((p_s.steps.length : Int) > 64)) = true then
   some 5
  else
   joinK (fun (c31 : Bool) (c32 : Bool) (c33 : Bool) (c34 : Bool) (c35 : Bool) (c36 : Bool) (c37 : Bool) (c38 : Bool) (c39 : Bool) (c40 : Bool) (c41 : Bool) (c42 : Bool) =>
    if (!((Ends6.mk c31 c32 c33 c34 c35 c36) == (Ends6.mk false false false false false false))) = true then
     some 9
    else
     (part? ([c37, c38, c39, c40, c41, c42] : List Bool) 0 p_s.actuators).bind fun l1 =>
      (slices_Contains_boolbool l1 false).bind fun r3 =>
      if r3 = true then
      some 13
     else
      some 0) fun k1 =>
    sequence_Check_loop1 p_s k1 (Int.toNat ((p_s.steps.length : Int) - 0) + 1) 0 false false false false false false false false false false false false

def ref14_steps_loop2 (p_s : Sequence) (x1 : Step) (k3 : (Option Int)) : Nat → Int → Option Int
 | 0, _ => none
 | m2 + 1, i2 => if (decide (i2 < (x1.strokes.length : Int))) = true then
  (at? x1.strokes i2).bind fun x2 =>
   if (decide (x2.actuator ≥ p_s.actuators)) = true then
   some 6
  else
   ref14_steps_loop2 p_s x1 k3 m2 (IntKind.wrap .i64 (i2 + 1))
  else
   k3
def ref14_steps_loop1 (p_s : Sequence) (k1 : ((List Bool) → Option Int)) : Nat → (List Bool) → Int → Option Int
 | 0, _, _ => none
 | m1 + 1, l1, i1 => if (decide (i1 < (p_s.steps.length : Int))) = true then
  joinK (fun (l2 : (List Bool)) =>
   ref14_steps_loop1 p_s k1 m1 l2 (IntKind.wrap .i64 (i1 + 1))) fun k2 =>
   (at? p_s.steps i1).bind fun x1 =>
   (ref13_CheckStep x1).bind fun r1 =>
   if (r1 != 0) = true then
   some r1
  else
   joinK ((ref13_Suits x1 l1).bind fun r2 =>
    if (!r2) = true then
    some 14
   else
    (ref13_After x1 l1).bind fun r3 =>
     k2 r3) fun k3 =>
    ref14_steps_loop2 p_s x1 k3 (Int.toNat ((x1.strokes.length : Int) - 0) + 1) 0
  else
   k1 l1
def ref14_steps_loop3 (p_s : Sequence) (l3 : (List Bool)) (k4 : (Option Int)) : Nat → Int → Option Int
 | 0, _ => none
 | m3 + 1, i3 => if (decide (i3 < p_s.actuators)) = true then
  (at? l3 i3).bind fun x3 =>
   if x3 = true then
   some 9
  else
   ref14_steps_loop3 p_s l3 k4 m3 (IntKind.wrap .i64 (i3 + 1))
  else
   k4
def ref14_steps (p_s : Sequence) : Option Int :=
 (guardO ((decide (0 ≤ p_s.actuators) && decide (p_s.actuators * 1 ≤ 140737488355328)) && decide (p_s.actuators ≤ 4611686018427387904))).bind fun _ =>
 joinK (fun (l3 : (List Bool)) =>
  joinK (some 0) fun k4 =>
   ref14_steps_loop3 p_s l3 k4 (Int.toNat (p_s.actuators - 0) + 1) 0) fun k1 =>
 ref14_steps_loop1 p_s k1 (Int.toNat ((p_s.steps.length : Int) - 0) + 1) (List.replicate (Int.toNat p_s.actuators) false) 0

def ref14_moves_loop1 (p_s : Sequence) (p_actuator : Int) (k1 : (Option Bool)) : Nat → Int → Option Bool
 | 0, _ => none
 | m1 + 1, i1 => if (decide (i1 < (p_s.steps.length : Int))) = true then
  (at? p_s.steps i1).bind fun x1 =>
   (ref13_Way x1 p_actuator).bind fun r1 =>
   if (r1 != 0) = true then
   some true
  else
   ref14_moves_loop1 p_s p_actuator k1 m1 (IntKind.wrap .i64 (i1 + 1))
  else
   k1
def ref14_moves (p_s : Sequence) (p_actuator : Int) : Option Bool :=
 joinK (some false) fun k1 =>
 ref14_moves_loop1 p_s p_actuator k1 (Int.toNat ((p_s.steps.length : Int) - 0) + 1) 0

def ref14_Check_loop1 (p_s : Sequence) (k1 : (Option Int)) : Nat → Int → Option Int
 | 0, _ => none
 | m1 + 1, i1 => if (decide (i1 < p_s.actuators)) = true then
  (ref14_moves p_s i1).bind fun r2 =>
   if (!r2) = true then
   some 13
  else
   ref14_Check_loop1 p_s k1 m1 (IntKind.wrap .i64 (i1 + 1))
  else
   k1
def ref14_Check (p_s : Sequence) : Option Int :=
 if ((decide (p_s.actuators < 1)) || (decide (p_s.actuators > 6))) = true then
 some 2
 else
 if ((p_s.steps.length : Int) == 0) = true then
  some 13
 else
  if (decide ((p_s.steps.length : Int) > 64)) = true then
   some 5
  else
   (ref14_steps p_s).bind fun r1 =>
    if (r1 != 0) = true then
    some r1
   else
    joinK (some 0) fun k1 =>
     ref14_Check_loop1 p_s k1 (Int.toNat (p_s.actuators - 0) + 1) 0

def ref14_Same (p_a : Sequence) (p_b : Sequence) : Option Bool :=
 (if (p_a.actuators == p_b.actuators) = true then (ref13_SameSteps p_a.steps p_b.steps).bind fun r1 =>
 some r1 else some false).bind fun c1 =>
 some c1

def slices_Equal_intint_loop1 (p_s1 : (List Int)) (p_s2 : (List Int)) (k1 : (Option Bool)) : Nat → Int → Option Bool
 | 0, _ => none
 | m1 + 1, i1 => if (decide (i1 < (p_s1.length : Int))) = true then
  (at? p_s1 i1).bind fun x1 =>
   (at? p_s2 i1).bind fun x2 =>
   if (x1 != x2) = true then
   some false
  else
   slices_Equal_intint_loop1 p_s1 p_s2 k1 m1 (IntKind.wrap .i64 (i1 + 1))
  else
   k1
def slices_Equal_intint (p_s1 : (List Int)) (p_s2 : (List Int)) : Option Bool :=
 if ((p_s1.length : Int) != (p_s2.length : Int)) = true then
 some false
 else
 joinK (some true) fun k1 =>
  slices_Equal_intint_loop1 p_s1 p_s2 k1 (Int.toNat ((p_s1.length : Int) - 0) + 1) 0

def diagram_index (p_out : Bool) : Option Int :=
 if p_out = true then
 some 1
 else
 some 0

def diagram_cells1_loop2 (l1 : (List Bool)) (k3 : ((List Cell) → Option (List (List Cell)))) : Nat → Int → (List Cell) → Option (List (List Cell))
 | 0, _, _ => none
 | m2 + 1, i2, l3 => if (decide (i2 < (l1.length : Int))) = true then
  (at? l1 i2).bind fun x2 =>
   (diagram_index x2).bind fun r1 =>
   (at? diag_rest r1).bind fun x3 =>
   (diagram_index x2).bind fun r2 =>
   (at? diag_rest r2).bind fun x4 =>
   (at? l3 i2).bind fun x5 =>
   diagram_cells1_loop2 l1 k3 m2 (IntKind.wrap .i64 (i2 + 1)) (List.set l3 (Int.toNat i2) (Cell.mk x3 x4))
  else
   k3 l3
def diagram_cells1_loop3 (x1 : Step) (k4 : ((List Bool) → (List Cell) → Option (List (List Cell)))) : Nat → Int → (List Bool) → (List Cell) → Option (List (List Cell))
 | 0, _, _, _ => none
 | m3 + 1, i3, l5, l6 => if (decide (i3 < (x1.strokes.length : Int))) = true then
  (at? x1.strokes i3).bind fun x6 =>
   (at? l5 x6.actuator).bind fun x7 =>
   (diagram_index x6.out).bind fun r3 =>
   (at? diag_going r3).bind fun x8 =>
   (diagram_index x6.out).bind fun r4 =>
   (at? diag_rest r4).bind fun x9 =>
   (at? l6 x6.actuator).bind fun x10 =>
   diagram_cells1_loop3 x1 k4 m3 (IntKind.wrap .i64 (i3 + 1)) (List.set l5 (Int.toNat x6.actuator) x6.out) (List.set l6 (Int.toNat x6.actuator) (Cell.mk x8 x9))
  else
   k4 l5 l6
def diagram_cells1_loop4 (k2 : ((List Bool) → (List Cell) → Option (List (List Cell)))) (l8 : (List Cell)) (l7 : (List Bool)) : Nat → Int → (List Cell) → Option (List (List Cell))
 | 0, _, _ => none
 | m4 + 1, i4, l9 => if (decide (i4 < 1)) = true then
  if (i4 == 0) = true then
   (at? l8 i4).bind fun x11 =>
    (appO 2 l9 ([x11] : List Cell)).bind fun _ =>
    diagram_cells1_loop4 k2 l8 l7 m4 (IntKind.wrap .i64 (i4 + 1)) (l9 ++ ([x11] : List Cell))
  else
   none
  else
   k2 l7 l9
def diagram_cells1_loop1 (p_s : Sequence) (k1 : ((List Cell) → Option (List (List Cell)))) : Nat → Int → (List Bool) → (List Cell) → Option (List (List Cell))
 | 0, _, _, _ => none
 | m1 + 1, i1, l1, l2 => if (decide (i1 < (p_s.steps.length : Int))) = true then
  joinK (fun (l11 : (List Bool)) (l12 : (List Cell)) =>
   diagram_cells1_loop1 p_s k1 m1 (IntKind.wrap .i64 (i1 + 1)) l11 l12) fun k2 =>
   (at? p_s.steps i1).bind fun x1 =>
   (guardO ((decide (0 ≤ p_s.actuators) && decide (p_s.actuators * 2 ≤ 140737488355328)) && decide (p_s.actuators ≤ 4611686018427387904))).bind fun _ =>
   joinK (fun (l4 : (List Cell)) =>
    joinK (fun (l7 : (List Bool)) (l8 : (List Cell)) =>
     diagram_cells1_loop4 k2 l8 l7 (Int.toNat (1 - 0) + 1) 0 l2) fun k4 =>
     diagram_cells1_loop3 x1 k4 (Int.toNat ((x1.strokes.length : Int) - 0) + 1) 0 l1 l4) fun k3 =>
   diagram_cells1_loop2 l1 k3 (Int.toNat ((l1.length : Int) - 0) + 1) 0 (List.replicate (Int.toNat p_s.actuators) (Cell.mk 0 0))
  else
   k1 l2
def diagram_cells1 (p_s : Sequence) : Option (List (List Cell)) :=
 (guardO ((decide (0 ≤ p_s.actuators) && decide (p_s.actuators * 1 ≤ 140737488355328)) && decide (p_s.actuators ≤ 4611686018427387904))).bind fun _ =>
 joinK (fun (l13 : (List Cell)) =>
  some ([l13] : List (List Cell))) fun k1 =>
 diagram_cells1_loop1 p_s k1 (Int.toNat ((p_s.steps.length : Int) - 0) + 1) 0 (List.replicate (Int.toNat p_s.actuators) false) ([] : List Cell)

def diagram_cells2_loop4 (k2 : ((List Bool) → (List Cell) → (List Cell) → Option (List (List Cell)))) (l9 : (List Cell)) (l8 : (List Bool)) : Nat → Int → (List Cell) → (List Cell) → Option (List (List Cell))
 | 0, _, _, _ => none
 | m4 + 1, i4, l10, l11 => if (decide (i4 < 2)) = true then
  if (i4 == 0) = true then
   (at? l9 i4).bind fun x11 =>
    (appO 2 l10 ([x11] : List Cell)).bind fun _ =>
    diagram_cells2_loop4 k2 l9 l8 m4 (IntKind.wrap .i64 (i4 + 1)) (l10 ++ ([x11] : List Cell)) l11
  else
   if (i4 == 1) = true then
    (at? l9 i4).bind fun x12 =>
     (appO 2 l11 ([x12] : List Cell)).bind fun _ =>
     diagram_cells2_loop4 k2 l9 l8 m4 (IntKind.wrap .i64 (i4 + 1)) l10 (l11 ++ ([x12] : List Cell))
   else
    none
  else
   k2 l8 l10 l11
def diagram_cells2_loop1 (p_s : Sequence) (k1 : ((List Cell) → (List Cell) → Option (List (List Cell)))) : Nat → Int → (List Bool) → (List Cell) → (List Cell) → Option (List (List Cell))
 | 0, _, _, _, _ => none
 | m1 + 1, i1, l1, l2, l3 => if (decide (i1 < (p_s.steps.length : Int))) = true then
  joinK (fun (l14 : (List Bool)) (l15 : (List Cell)) (l16 : (List Cell)) =>
   diagram_cells2_loop1 p_s k1 m1 (IntKind.wrap .i64 (i1 + 1)) l14 l15 l16) fun k2 =>
   (at? p_s.steps i1).bind fun x1 =>
   (guardO ((decide (0 ≤ p_s.actuators) && decide (p_s.actuators * 2 ≤ 140737488355328)) && decide (p_s.actuators ≤ 4611686018427387904))).bind fun _ =>
   joinK (fun (l5 : (List Cell)) =>
    joinK (fun (l8 : (List Bool)) (l9 : (List Cell)) =>
     diagram_cells2_loop4 k2 l9 l8 (Int.toNat (2 - 0) + 1) 0 l2 l3) fun k4 =>
     diagram_cells1_loop3 x1 k4 (Int.toNat ((x1.strokes.length : Int) - 0) + 1) 0 l1 l5) fun k3 =>
   diagram_cells1_loop2 l1 k3 (Int.toNat ((l1.length : Int) - 0) + 1) 0 (List.replicate (Int.toNat p_s.actuators) (Cell.mk 0 0))
  else
   k1 l2 l3
def diagram_cells2 (p_s : Sequence) : Option (List (List Cell)) :=
 (guardO ((decide (0 ≤ p_s.actuators) && decide (p_s.actuators * 1 ≤ 140737488355328)) && decide (p_s.actuators ≤ 4611686018427387904))).bind fun _ =>
 joinK (fun (l17 : (List Cell)) (l18 : (List Cell)) =>
  some ([l17, l18] : List (List Cell))) fun k1 =>
 diagram_cells2_loop1 p_s k1 (Int.toNat ((p_s.steps.length : Int) - 0) + 1) 0 (List.replicate (Int.toNat p_s.actuators) false) ([] : List Cell) ([] : List Cell)

def diagram_cells3_loop4 (k2 : ((List Bool) → (List Cell) → (List Cell) → (List Cell) → Option (List (List Cell)))) (l10 : (List Cell)) (l9 : (List Bool)) : Nat → Int → (List Cell) → (List Cell) → (List Cell) → Option (List (List Cell))
 | 0, _, _, _, _ => none
 | m4 + 1, i4, l11, l12, l13 => if (decide (i4 < 3)) = true then
  if (i4 == 0) = true then
   (at? l10 i4).bind fun x11 =>
    (appO 2 l11 ([x11] : List Cell)).bind fun _ =>
    diagram_cells3_loop4 k2 l10 l9 m4 (IntKind.wrap .i64 (i4 + 1)) (l11 ++ ([x11] : List Cell)) l12 l13
  else
   if (i4 == 1) = true then
    (at? l10 i4).bind fun x12 =>
     (appO 2 l12 ([x12] : List Cell)).bind fun _ =>
     diagram_cells3_loop4 k2 l10 l9 m4 (IntKind.wrap .i64 (i4 + 1)) l11 (l12 ++ ([x12] : List Cell)) l13
   else
    if (i4 == 2) = true then
     (at? l10 i4).bind fun x13 =>
      (appO 2 l13 ([x13] : List Cell)).bind fun _ =>
      diagram_cells3_loop4 k2 l10 l9 m4 (IntKind.wrap .i64 (i4 + 1)) l11 l12 (l13 ++ ([x13] : List Cell))
    else
     none
  else
   k2 l9 l11 l12 l13
def diagram_cells3_loop1 (p_s : Sequence) (k1 : ((List Cell) → (List Cell) → (List Cell) → Option (List (List Cell)))) : Nat → Int → (List Bool) → (List Cell) → (List Cell) → (List Cell) → Option (List (List Cell))
 | 0, _, _, _, _, _ => none
 | m1 + 1, i1, l1, l2, l3, l4 => if (decide (i1 < (p_s.steps.length : Int))) = true then
  joinK (fun (l17 : (List Bool)) (l18 : (List Cell)) (l19 : (List Cell)) (l20 : (List Cell)) =>
   diagram_cells3_loop1 p_s k1 m1 (IntKind.wrap .i64 (i1 + 1)) l17 l18 l19 l20) fun k2 =>
   (at? p_s.steps i1).bind fun x1 =>
   (guardO ((decide (0 ≤ p_s.actuators) && decide (p_s.actuators * 2 ≤ 140737488355328)) && decide (p_s.actuators ≤ 4611686018427387904))).bind fun _ =>
   joinK (fun (l6 : (List Cell)) =>
    joinK (fun (l9 : (List Bool)) (l10 : (List Cell)) =>
     diagram_cells3_loop4 k2 l10 l9 (Int.toNat (3 - 0) + 1) 0 l2 l3 l4) fun k4 =>
     diagram_cells1_loop3 x1 k4 (Int.toNat ((x1.strokes.length : Int) - 0) + 1) 0 l1 l6) fun k3 =>
   diagram_cells1_loop2 l1 k3 (Int.toNat ((l1.length : Int) - 0) + 1) 0 (List.replicate (Int.toNat p_s.actuators) (Cell.mk 0 0))
  else
   k1 l2 l3 l4
def diagram_cells3 (p_s : Sequence) : Option (List (List Cell)) :=
 (guardO ((decide (0 ≤ p_s.actuators) && decide (p_s.actuators * 1 ≤ 140737488355328)) && decide (p_s.actuators ≤ 4611686018427387904))).bind fun _ =>
 joinK (fun (l21 : (List Cell)) (l22 : (List Cell)) (l23 : (List Cell)) =>
  some ([l21, l22, l23] : List (List Cell))) fun k1 =>
 diagram_cells3_loop1 p_s k1 (Int.toNat ((p_s.steps.length : Int) - 0) + 1) 0 (List.replicate (Int.toNat p_s.actuators) false) ([] : List Cell) ([] : List Cell) ([] : List Cell)

def diagram_cells4_loop4 (k2 : ((List Bool) → (List Cell) → (List Cell) → (List Cell) → (List Cell) → Option (List (List Cell)))) (l11 : (List Cell)) (l10 : (List Bool)) : Nat → Int → (List Cell) → (List Cell) → (List Cell) → (List Cell) → Option (List (List Cell))
 | 0, _, _, _, _, _ => none
 | m4 + 1, i4, l12, l13, l14, l15 => if (decide (i4 < 4)) = true then
  if (i4 == 0) = true then
   (at? l11 i4).bind fun x11 =>
    (appO 2 l12 ([x11] : List Cell)).bind fun _ =>
    diagram_cells4_loop4 k2 l11 l10 m4 (IntKind.wrap .i64 (i4 + 1)) (l12 ++ ([x11] : List Cell)) l13 l14 l15
  else
   if (i4 == 1) = true then
    (at? l11 i4).bind fun x12 =>
     (appO 2 l13 ([x12] : List Cell)).bind fun _ =>
     diagram_cells4_loop4 k2 l11 l10 m4 (IntKind.wrap .i64 (i4 + 1)) l12 (l13 ++ ([x12] : List Cell)) l14 l15
   else
    if (i4 == 2) = true then
     (at? l11 i4).bind fun x13 =>
      (appO 2 l14 ([x13] : List Cell)).bind fun _ =>
      diagram_cells4_loop4 k2 l11 l10 m4 (IntKind.wrap .i64 (i4 + 1)) l12 l13 (l14 ++ ([x13] : List Cell)) l15
    else
     if (i4 == 3) = true then
      (at? l11 i4).bind fun x14 =>
       (appO 2 l15 ([x14] : List Cell)).bind fun _ =>
       diagram_cells4_loop4 k2 l11 l10 m4 (IntKind.wrap .i64 (i4 + 1)) l12 l13 l14 (l15 ++ ([x14] : List Cell))
     else
      none
  else
   k2 l10 l12 l13 l14 l15
def diagram_cells4_loop1 (p_s : Sequence) (k1 : ((List Cell) → (List Cell) → (List Cell) → (List Cell) → Option (List (List Cell)))) : Nat → Int → (List Bool) → (List Cell) → (List Cell) → (List Cell) → (List Cell) → Option (List (List Cell))
 | 0, _, _, _, _, _, _ => none
 | m1 + 1, i1, l1, l2, l3, l4, l5 => if (decide (i1 < (p_s.steps.length : Int))) = true then
  joinK (fun (l20 : (List Bool)) (l21 : (List Cell)) (l22 : (List Cell)) (l23 : (List Cell)) (l24 : (List Cell)) =>
   diagram_cells4_loop1 p_s k1 m1 (IntKind.wrap .i64 (i1 + 1)) l20 l21 l22 l23 l24) fun k2 =>
   (at? p_s.steps i1).bind fun x1 =>
   (guardO ((decide (0 ≤ p_s.actuators) && decide (p_s.actuators * 2 ≤ 140737488355328)) && decide (p_s.actuators ≤ 4611686018427387904))).bind fun _ =>
   joinK (fun (l7 : (List Cell)) =>
    joinK (fun (l10 : (List Bool)) (l11 : (List Cell)) =>
     diagram_cells4_loop4 k2 l11 l10 (Int.toNat (4 - 0) + 1) 0 l2 l3 l4 l5) fun k4 =>
     diagram_cells1_loop3 x1 k4 (Int.toNat ((x1.strokes.length : Int) - 0) + 1) 0 l1 l7) fun k3 =>
   diagram_cells1_loop2 l1 k3 (Int.toNat ((l1.length : Int) - 0) + 1) 0 (List.replicate (Int.toNat p_s.actuators) (Cell.mk 0 0))
  else
   k1 l2 l3 l4 l5
def diagram_cells4 (p_s : Sequence) : Option (List (List Cell)) :=
 (guardO ((decide (0 ≤ p_s.actuators) && decide (p_s.actuators * 1 ≤ 140737488355328)) && decide (p_s.actuators ≤ 4611686018427387904))).bind fun _ =>
 joinK (fun (l25 : (List Cell)) (l26 : (List Cell)) (l27 : (List Cell)) (l28 : (List Cell)) =>
  some ([l25, l26, l27, l28] : List (List Cell))) fun k1 =>
 diagram_cells4_loop1 p_s k1 (Int.toNat ((p_s.steps.length : Int) - 0) + 1) 0 (List.replicate (Int.toNat p_s.actuators) false) ([] : List Cell) ([] : List Cell) ([] : List Cell) ([] : List Cell)

def diagram_cells5_loop4 (k2 : ((List Bool) → (List Cell) → (List Cell) → (List Cell) → (List Cell) → (List Cell) → Option (List (List Cell)))) (l12 : (List Cell)) (l11 : (List Bool)) : Nat → Int → (List Cell) → (List Cell) → (List Cell) → (List Cell) → (List Cell) → Option (List (List Cell))
 | 0, _, _, _, _, _, _ => none
 | m4 + 1, i4, l13, l14, l15, l16, l17 => if (decide (i4 < 5)) = true then
  if (i4 == 0) = true then
   (at? l12 i4).bind fun x11 =>
    (appO 2 l13 ([x11] : List Cell)).bind fun _ =>
    diagram_cells5_loop4 k2 l12 l11 m4 (IntKind.wrap .i64 (i4 + 1)) (l13 ++ ([x11] : List Cell)) l14 l15 l16 l17
  else
   if (i4 == 1) = true then
    (at? l12 i4).bind fun x12 =>
     (appO 2 l14 ([x12] : List Cell)).bind fun _ =>
     diagram_cells5_loop4 k2 l12 l11 m4 (IntKind.wrap .i64 (i4 + 1)) l13 (l14 ++ ([x12] : List Cell)) l15 l16 l17
   else
    if (i4 == 2) = true then
     (at? l12 i4).bind fun x13 =>
      (appO 2 l15 ([x13] : List Cell)).bind fun _ =>
      diagram_cells5_loop4 k2 l12 l11 m4 (IntKind.wrap .i64 (i4 + 1)) l13 l14 (l15 ++ ([x13] : List Cell)) l16 l17
    else
     if (i4 == 3) = true then
      (at? l12 i4).bind fun x14 =>
       (appO 2 l16 ([x14] : List Cell)).bind fun _ =>
       diagram_cells5_loop4 k2 l12 l11 m4 (IntKind.wrap .i64 (i4 + 1)) l13 l14 l15 (l16 ++ ([x14] : List Cell)) l17
     else
      if (i4 == 4) = true then
       (at? l12 i4).bind fun x15 =>
        (appO 2 l17 ([x15] : List Cell)).bind fun _ =>
        diagram_cells5_loop4 k2 l12 l11 m4 (IntKind.wrap .i64 (i4 + 1)) l13 l14 l15 l16 (l17 ++ ([x15] : List Cell))
      else
       none
  else
   k2 l11 l13 l14 l15 l16 l17
def diagram_cells5_loop1 (p_s : Sequence) (k1 : ((List Cell) → (List Cell) → (List Cell) → (List Cell) → (List Cell) → Option (List (List Cell)))) : Nat → Int → (List Bool) → (List Cell) → (List Cell) → (List Cell) → (List Cell) → (List Cell) → Option (List (List Cell))
 | 0, _, _, _, _, _, _, _ => none
 | m1 + 1, i1, l1, l2, l3, l4, l5, l6 => if (decide (i1 < (p_s.steps.length : Int))) = true then
  joinK (fun (l23 : (List Bool)) (l24 : (List Cell)) (l25 : (List Cell)) (l26 : (List Cell)) (l27 : (List Cell)) (l28 : (List Cell)) =>
   diagram_cells5_loop1 p_s k1 m1 (IntKind.wrap .i64 (i1 + 1)) l23 l24 l25 l26 l27 l28) fun k2 =>
   (at? p_s.steps i1).bind fun x1 =>
   (guardO ((decide (0 ≤ p_s.actuators) && decide (p_s.actuators * 2 ≤ 140737488355328)) && decide (p_s.actuators ≤ 4611686018427387904))).bind fun _ =>
   joinK (fun (l8 : (List Cell)) =>
    joinK (fun (l11 : (List Bool)) (l12 : (List Cell)) =>
     diagram_cells5_loop4 k2 l12 l11 (Int.toNat (5 - 0) + 1) 0 l2 l3 l4 l5 l6) fun k4 =>
     diagram_cells1_loop3 x1 k4 (Int.toNat ((x1.strokes.length : Int) - 0) + 1) 0 l1 l8) fun k3 =>
   diagram_cells1_loop2 l1 k3 (Int.toNat ((l1.length : Int) - 0) + 1) 0 (List.replicate (Int.toNat p_s.actuators) (Cell.mk 0 0))
  else
   k1 l2 l3 l4 l5 l6
def diagram_cells5 (p_s : Sequence) : Option (List (List Cell)) :=
 (guardO ((decide (0 ≤ p_s.actuators) && decide (p_s.actuators * 1 ≤ 140737488355328)) && decide (p_s.actuators ≤ 4611686018427387904))).bind fun _ =>
 joinK (fun (l29 : (List Cell)) (l30 : (List Cell)) (l31 : (List Cell)) (l32 : (List Cell)) (l33 : (List Cell)) =>
  some ([l29, l30, l31, l32, l33] : List (List Cell))) fun k1 =>
 diagram_cells5_loop1 p_s k1 (Int.toNat ((p_s.steps.length : Int) - 0) + 1) 0 (List.replicate (Int.toNat p_s.actuators) false) ([] : List Cell) ([] : List Cell) ([] : List Cell) ([] : List Cell) ([] : List Cell)

def diagram_cells6_loop4 (k2 : ((List Bool) → (List Cell) → (List Cell) → (List Cell) → (List Cell) → (List Cell) → (List Cell) → Option (List (List Cell)))) (l13 : (List Cell)) (l12 : (List Bool)) : Nat → Int → (List Cell) → (List Cell) → (List Cell) → (List Cell) → (List Cell) → (List Cell) → Option (List (List Cell))
 | 0, _, _, _, _, _, _, _ => none
 | m4 + 1, i4, l14, l15, l16, l17, l18, l19 => if (decide (i4 < 6)) = true then
  if (i4 == 0) = true then
   (at? l13 i4).bind fun x11 =>
    (appO 2 l14 ([x11] : List Cell)).bind fun _ =>
    diagram_cells6_loop4 k2 l13 l12 m4 (IntKind.wrap .i64 (i4 + 1)) (l14 ++ ([x11] : List Cell)) l15 l16 l17 l18 l19
  else
   if (i4 == 1) = true then
    (at? l13 i4).bind fun x12 =>
     (appO 2 l15 ([x12] : List Cell)).bind fun _ =>
     diagram_cells6_loop4 k2 l13 l12 m4 (IntKind.wrap .i64 (i4 + 1)) l14 (l15 ++ ([x12] : List Cell)) l16 l17 l18 l19
   else
    if (i4 == 2) = true then
     (at? l13 i4).bind fun x13 =>
      (appO 2 l16 ([x13] : List Cell)).bind fun _ =>
      diagram_cells6_loop4 k2 l13 l12 m4 (IntKind.wrap .i64 (i4 + 1)) l14 l15 (l16 ++ ([x13] : List Cell)) l17 l18 l19
    else
     if (i4 == 3) = true then
      (at? l13 i4).bind fun x14 =>
       (appO 2 l17 ([x14] : List Cell)).bind fun _ =>
       diagram_cells6_loop4 k2 l13 l12 m4 (IntKind.wrap .i64 (i4 + 1)) l14 l15 l16 (l17 ++ ([x14] : List Cell)) l18 l19
     else
      if (i4 == 4) = true then
       (at? l13 i4).bind fun x15 =>
        (appO 2 l18 ([x15] : List Cell)).bind fun _ =>
        diagram_cells6_loop4 k2 l13 l12 m4 (IntKind.wrap .i64 (i4 + 1)) l14 l15 l16 l17 (l18 ++ ([x15] : List Cell)) l19
      else
       if (i4 == 5) = true then
        (at? l13 i4).bind fun x16 =>
         (appO 2 l19 ([x16] : List Cell)).bind fun _ =>
         diagram_cells6_loop4 k2 l13 l12 m4 (IntKind.wrap .i64 (i4 + 1)) l14 l15 l16 l17 l18 (l19 ++ ([x16] : List Cell))
       else
        none
  else
   k2 l12 l14 l15 l16 l17 l18 l19
def diagram_cells6_loop1 (p_s : Sequence) (k1 : ((List Cell) → (List Cell) → (List Cell) → (List Cell) → (List Cell) → (List Cell) → Option (List (List Cell)))) : Nat → Int → (List Bool) → (List Cell) → (List Cell) → (List Cell) → (List Cell) → (List Cell) → (List Cell) → Option (List (List Cell))
 | 0, _, _, _, _, _, _, _, _ => none
 | m1 + 1, i1, l1, l2, l3, l4, l5, l6, l7 => if (decide (i1 < (p_s.steps.length : Int))) = true then
  joinK (fun (l26 : (List Bool)) (l27 : (List Cell)) (l28 : (List Cell)) (l29 : (List Cell)) (l30 : (List Cell)) (l31 : (List Cell)) (l32 : (List Cell)) =>
   diagram_cells6_loop1 p_s k1 m1 (IntKind.wrap .i64 (i1 + 1)) l26 l27 l28 l29 l30 l31 l32) fun k2 =>
   (at? p_s.steps i1).bind fun x1 =>
   (guardO ((decide (0 ≤ p_s.actuators) && decide (p_s.actuators * 2 ≤ 140737488355328)) && decide (p_s.actuators ≤ 4611686018427387904))).bind fun _ =>
   joinK (fun (l9 : (List Cell)) =>
    joinK (fun (l12 : (List Bool)) (l13 : (List Cell)) =>
     diagram_cells6_loop4 k2 l13 l12 (Int.toNat (6 - 0) + 1) 0 l2 l3 l4 l5 l6 l7) fun k4 =>
     diagram_cells1_loop3 x1 k4 (Int.toNat ((x1.strokes.length : Int) - 0) + 1) 0 l1 l9) fun k3 =>
   diagram_cells1_loop2 l1 k3 (Int.toNat ((l1.length : Int) - 0) + 1) 0 (List.replicate (Int.toNat p_s.actuators) (Cell.mk 0 0))
  else
   k1 l2 l3 l4 l5 l6 l7
def diagram_cells6 (p_s : Sequence) : Option (List (List Cell)) :=
 (guardO ((decide (0 ≤ p_s.actuators) && decide (p_s.actuators * 1 ≤ 140737488355328)) && decide (p_s.actuators ≤ 4611686018427387904))).bind fun _ =>
 joinK (fun (l33 : (List Cell)) (l34 : (List Cell)) (l35 : (List Cell)) (l36 : (List Cell)) (l37 : (List Cell)) (l38 : (List Cell)) =>
  some ([l33, l34, l35, l36, l37, l38] : List (List Cell))) fun k1 =>
 diagram_cells6_loop1 p_s k1 (Int.toNat ((p_s.steps.length : Int) - 0) + 1) 0 (List.replicate (Int.toNat p_s.actuators) false) ([] : List Cell) ([] : List Cell) ([] : List Cell) ([] : List Cell) ([] : List Cell) ([] : List Cell)

def diagram_cells (p_s : Sequence) : Option (List (List Cell)) :=
 if (p_s.actuators == 1) = true then diagram_cells1 p_s else
 if (p_s.actuators == 2) = true then diagram_cells2 p_s else
 if (p_s.actuators == 3) = true then diagram_cells3 p_s else
 if (p_s.actuators == 4) = true then diagram_cells4 p_s else
 if (p_s.actuators == 5) = true then diagram_cells5 p_s else
 if (p_s.actuators == 6) = true then diagram_cells6 p_s else
 none

def diagram_letter (p_a : Int) : Option (List UInt8) :=
 some ((Utf8.encode (IntKind.wrap .i32 (IntKind.wrap .i64 (65 + p_a)))).data.toList)

def diagram_draw_loop2 (x1 : (List Cell)) (k3 : ((List UInt8) → Option (List (List UInt8)))) : Nat → Int → (List UInt8) → Option (List (List UInt8))
 | 0, _, _ => none
 | m2 + 1, i2, l3 => if (decide (i2 < (x1.length : Int))) = true then
  (at? x1 i2).bind fun x2 =>
   (guardO (decide (0 ≤ x2.first) && decide (x2.first ≤ 255))).bind fun _ =>
   (appO 1 l3 ([(UInt8.ofNat (Int.toNat x2.first))] : List UInt8)).bind fun _ =>
   (guardO (decide (0 ≤ x2.second) && decide (x2.second ≤ 255))).bind fun _ =>
   (appO 1 (l3 ++ ([(UInt8.ofNat (Int.toNat x2.first))] : List UInt8)) ([(UInt8.ofNat (Int.toNat x2.second))] : List UInt8)).bind fun _ =>
   diagram_draw_loop2 x1 k3 m2 (IntKind.wrap .i64 (i2 + 1)) ((l3 ++ ([(UInt8.ofNat (Int.toNat x2.first))] : List UInt8)) ++ ([(UInt8.ofNat (Int.toNat x2.second))] : List UInt8))
  else
   k3 l3
def diagram_draw_loop1 (k1 : ((List (List UInt8)) → Option (List (List UInt8)))) (r1 : ((List (List Cell)))) : Nat → Int → (List (List UInt8)) → Option (List (List UInt8))
 | 0, _, _ => none
 | m1 + 1, i1, l1 => if (decide (i1 < (r1.length : Int))) = true then
  joinK (fun (l8 : (List (List UInt8))) =>
   diagram_draw_loop1 k1 r1 m1 (IntKind.wrap .i64 (i1 + 1)) l8) fun k2 =>
   (at? r1 i1).bind fun x1 =>
   (diagram_letter i1).bind fun r2 =>
   (catO r2 [32, 95]).bind fun s2 =>
   (appO 1 ([] : List UInt8) s2).bind fun _ =>
   joinK (fun (l6 : (List UInt8)) =>
    (appO 16 l1 ([l6] : List (List UInt8))).bind fun _ =>
     k2 (l1 ++ ([l6] : List (List UInt8)))) fun k3 =>
   diagram_draw_loop2 x1 k3 (Int.toNat ((x1.length : Int) - 0) + 1) 0 (([] : List UInt8) ++ s2)
  else
   k1 l1
def diagram_draw_loop3 (p_s : Sequence) (k5 : ((List UInt8) → Option (List (List UInt8)))) : Nat → Int → (List UInt8) → Option (List (List UInt8))
 | 0, _, _ => none
 | m3 + 1, i3, l11 => if (decide (i3 < (p_s.steps.length : Int))) = true then
  (at? p_s.steps i3).bind fun x3 =>
   (itoa x3.wait).bind fun r4 =>
   (catO [32] r4).bind fun s4 =>
   (appO 1 l11 s4).bind fun _ =>
   diagram_draw_loop3 p_s k5 m3 (IntKind.wrap .i64 (i3 + 1)) (l11 ++ s4)
  else
   k5 l11
def diagram_draw (p_s : Sequence) : Option (List (List UInt8)) :=
 joinK (fun (l9 : (List (List UInt8))) =>
  joinK (fun (l15 : (List (List UInt8))) =>
   some l15) fun k4 =>
   (slices_ContainsFunc_api_Stepapi_Step_diagram_draw_1 p_s.steps).bind fun r3 =>
   if r3 = true then
   (appO 1 ([] : List UInt8) [84]).bind fun _ =>
    joinK (fun (l13 : (List UInt8)) =>
     (appO 16 l9 ([l13] : List (List UInt8))).bind fun _ =>
      k4 (l9 ++ ([l13] : List (List UInt8)))) fun k5 =>
    diagram_draw_loop3 p_s k5 (Int.toNat ((p_s.steps.length : Int) - 0) + 1) 0 (([] : List UInt8) ++ [84])
  else
   k4 l9) fun k1 =>
 (diagram_cells p_s).bind fun r1 =>
 diagram_draw_loop1 k1 r1 (Int.toNat ((r1.length : Int) - 0) + 1) 0 ([] : List (List UInt8))

def diagram_Draw (p_s : Sequence) : Option ((List (List UInt8)) × Int) :=
 (sequence_Check p_s).bind fun r1 =>
 if (r1 != 0) = true then
 some ([], r1)
 else
 (diagram_draw p_s).bind fun r2 =>
  some (r2, 0)

def diagram_Column_loop1 (p_k : Int) (k1 : ((List UInt8) → Option ((List UInt8) × Int))) (r2 : ((List (List Cell)))) : Nat → Int → (List UInt8) → Option ((List UInt8) × Int)
 | 0, _, _ => none
 | m1 + 1, i1, l1 => if (decide (i1 < (r2.length : Int))) = true then
  (at? r2 i1).bind fun x1 =>
   (at? x1 p_k).bind fun x2 =>
   (guardO (decide (0 ≤ x2.first) && decide (x2.first ≤ 255))).bind fun _ =>
   (appO 1 l1 ([(UInt8.ofNat (Int.toNat x2.first))] : List UInt8)).bind fun _ =>
   diagram_Column_loop1 p_k k1 r2 m1 (IntKind.wrap .i64 (i1 + 1)) (l1 ++ ([(UInt8.ofNat (Int.toNat x2.first))] : List UInt8))
  else
   k1 l1
def diagram_Column (p_s : Sequence) (p_k : Int) : Option ((List UInt8) × Int) :=
 (sequence_Check p_s).bind fun r1 =>
 if (r1 != 0) = true then
 some ([], r1)
 else
 if ((decide (p_k < 0)) || (decide (p_k ≥ (p_s.steps.length : Int)))) = true then
  some ([], 2)
 else
  joinK (fun (l3 : (List UInt8)) =>
   some (l3, 0)) fun k1 =>
   (diagram_cells p_s).bind fun r2 =>
   diagram_Column_loop1 p_k k1 r2 (Int.toNat ((r2.length : Int) - 0) + 1) 0 ([] : List UInt8)

def diagram_Switches_loop3 (x1 : (List Cell)) (i2 : Int) (k6 : ((List UInt8) → Option ((List (List UInt8)) × Int))) : Nat → Int → (List UInt8) → Option ((List (List UInt8)) × Int)
 | 0, _, _ => none
 | m3 + 1, i3, l6 => if (decide (i3 < (x1.length : Int))) = true then
  (at? x1 i3).bind fun x4 =>
   (at? diag_rest i2).bind fun x5 =>
   if (x4.second == x5) = true then
   (appO 1 l6 ([35] : List UInt8)).bind fun _ =>
    diagram_Switches_loop3 x1 i2 k6 m3 (IntKind.wrap .i64 (i3 + 1)) (l6 ++ ([35] : List UInt8))
  else
   (appO 1 l6 ([46] : List UInt8)).bind fun _ =>
    diagram_Switches_loop3 x1 i2 k6 m3 (IntKind.wrap .i64 (i3 + 1)) (l6 ++ ([46] : List UInt8))
  else
   k6 l6
def diagram_Switches_loop2 (i1 : Int) (k2 : ((List (List UInt8)) → Option ((List (List UInt8)) × Int))) (x1 : (List Cell)) : Nat → Int → (List (List UInt8)) → Option ((List (List UInt8)) × Int)
 | 0, _, _ => none
 | m2 + 1, i2, l2 => if (decide (i2 < 2)) = true then
  joinK (fun (l11 : (List (List UInt8))) =>
   diagram_Switches_loop2 i1 k2 x1 m2 (IntKind.wrap .i64 (i2 + 1)) l11) fun k3 =>
   joinK (fun (s1 : (List UInt8)) =>
    (diagram_letter i1).bind fun r3 =>
     (catO r3 s1).bind fun s2 =>
     (catO s2 [32]).bind fun s3 =>
     (guardO (decide (s3.length ≤ 140737488355328))).bind fun _ =>
     joinK (fun (l5 : (List UInt8)) =>
      joinK (fun (l9 : (List UInt8)) =>
       (appO 16 l2 ([l9] : List (List UInt8))).bind fun _ =>
        k3 (l2 ++ ([l9] : List (List UInt8)))) fun k6 =>
       diagram_Switches_loop3 x1 i2 k6 (Int.toNat ((x1.length : Int) - 0) + 1) 0 l5) fun k5 =>
     (at? diag_rest 0).bind fun x2 =>
     (at? diag_rest i2).bind fun x3 =>
     if (x2 == x3) = true then
     (appO 1 s3 ([35] : List UInt8)).bind fun _ =>
      k5 (s3 ++ ([35] : List UInt8))
    else
     (appO 1 s3 ([46] : List UInt8)).bind fun _ =>
      k5 (s3 ++ ([46] : List UInt8))) fun k4 =>
   if (i2 == 0) = true then
   k4 [48]
  else
   if (i2 == 1) = true then
    k4 [49]
   else
    none
  else
   k2 l2
def diagram_Switches_loop1 (k1 : ((List (List UInt8)) → Option ((List (List UInt8)) × Int))) (r2 : ((List (List Cell)))) : Nat → Int → (List (List UInt8)) → Option ((List (List UInt8)) × Int)
 | 0, _, _ => none
 | m1 + 1, i1, l1 => if (decide (i1 < (r2.length : Int))) = true then
  joinK (fun (l12 : (List (List UInt8))) =>
   diagram_Switches_loop1 k1 r2 m1 (IntKind.wrap .i64 (i1 + 1)) l12) fun k2 =>
   (at? r2 i1).bind fun x1 =>
   diagram_Switches_loop2 i1 k2 x1 (Int.toNat (2 - 0) + 1) 0 l1
  else
   k1 l1
def diagram_Switches (p_s : Sequence) : Option ((List (List UInt8)) × Int) :=
 (sequence_Check p_s).bind fun r1 =>
 if (r1 != 0) = true then
 some ([], r1)
 else
 joinK (fun (l13 : (List (List UInt8))) =>
  some (l13, 0)) fun k1 =>
  (diagram_cells p_s).bind fun r2 =>
  diagram_Switches_loop1 k1 r2 (Int.toNat ((r2.length : Int) - 0) + 1) 0 ([] : List (List UInt8))

def slices_Equal_stringstring_loop1 (p_s1 : (List (List UInt8))) (p_s2 : (List (List UInt8))) (k1 : (Option Bool)) : Nat → Int → Option Bool
 | 0, _ => none
 | m1 + 1, i1 => if (decide (i1 < (p_s1.length : Int))) = true then
  (at? p_s1 i1).bind fun x1 =>
   (at? p_s2 i1).bind fun x2 =>
   if (!(x1 == x2)) = true then
   some false
  else
   slices_Equal_stringstring_loop1 p_s1 p_s2 k1 m1 (IntKind.wrap .i64 (i1 + 1))
  else
   k1
def slices_Equal_stringstring (p_s1 : (List (List UInt8))) (p_s2 : (List (List UInt8))) : Option Bool :=
 if ((p_s1.length : Int) != (p_s2.length : Int)) = true then
 some false
 else
 joinK (some true) fun k1 =>
  slices_Equal_stringstring_loop1 p_s1 p_s2 k1 (Int.toNat ((p_s1.length : Int) - 0) + 1) 0

def diagram_Marks_loop1 (p_s : Sequence) (p_before : (List Int)) (k1 : (Option ((List (List UInt8)) × Int))) : Nat → Int → Option ((List (List UInt8)) × Int)
 | 0, _ => none
 | m1 + 1, i1 => if (decide (i1 < (p_before.length : Int))) = true then
  (at? p_before i1).bind fun x1 =>
   if ((decide (x1 < 0)) || (decide (x1 ≥ (p_s.steps.length : Int)))) = true then
   some ([], 2)
  else
   (if (decide (i1 > 0)) = true then (at? p_before (IntKind.wrap .i64 (i1 - 1))).bind fun x2 =>
    some (decide (x1 ≤ x2)) else some false).bind fun c1 =>
    if c1 = true then
    some ([], 9)
   else
    diagram_Marks_loop1 p_s p_before k1 m1 (IntKind.wrap .i64 (i1 + 1))
  else
   k1
def diagram_Marks_loop3 (p_before : (List Int)) (x3 : (List Cell)) (k4 : ((List UInt8) → Option ((List (List UInt8)) × Int))) : Nat → Int → (List UInt8) → Option ((List (List UInt8)) × Int)
 | 0, _, _ => none
 | m3 + 1, i3, l3 => if (decide (i3 < (x3.length : Int))) = true then
  (at? x3 i3).bind fun x4 =>
   joinK (fun (l5 : (List UInt8)) =>
    (guardO (decide (0 ≤ x4.first) && decide (x4.first ≤ 255))).bind fun _ =>
     (appO 1 l5 ([(UInt8.ofNat (Int.toNat x4.first))] : List UInt8)).bind fun _ =>
     (guardO (decide (0 ≤ x4.second) && decide (x4.second ≤ 255))).bind fun _ =>
     (appO 1 (l5 ++ ([(UInt8.ofNat (Int.toNat x4.first))] : List UInt8)) ([(UInt8.ofNat (Int.toNat x4.second))] : List UInt8)).bind fun _ =>
     diagram_Marks_loop3 p_before x3 k4 m3 (IntKind.wrap .i64 (i3 + 1)) ((l5 ++ ([(UInt8.ofNat (Int.toNat x4.first))] : List UInt8)) ++ ([(UInt8.ofNat (Int.toNat x4.second))] : List UInt8))) fun k5 =>
   (slices_Contains_intint p_before i3).bind fun r4 =>
   if r4 = true then
   (appO 1 l3 ([124] : List UInt8)).bind fun _ =>
    k5 (l3 ++ ([124] : List UInt8))
  else
   k5 l3
  else
   k4 l3
def diagram_Marks_loop2 (k2 : ((List (List UInt8)) → Option ((List (List UInt8)) × Int))) (r2 : ((List (List Cell)))) (p_before : (List Int)) : Nat → Int → (List (List UInt8)) → Option ((List (List UInt8)) × Int)
 | 0, _, _ => none
 | m2 + 1, i2, l1 => if (decide (i2 < (r2.length : Int))) = true then
  joinK (fun (l10 : (List (List UInt8))) =>
   diagram_Marks_loop2 k2 r2 p_before m2 (IntKind.wrap .i64 (i2 + 1)) l10) fun k3 =>
   (at? r2 i2).bind fun x3 =>
   (diagram_letter i2).bind fun r3 =>
   (catO r3 [32, 95]).bind fun s2 =>
   (appO 1 ([] : List UInt8) s2).bind fun _ =>
   joinK (fun (l8 : (List UInt8)) =>
    (appO 16 l1 ([l8] : List (List UInt8))).bind fun _ =>
     k3 (l1 ++ ([l8] : List (List UInt8)))) fun k4 =>
   diagram_Marks_loop3 p_before x3 k4 (Int.toNat ((x3.length : Int) - 0) + 1) 0 (([] : List UInt8) ++ s2)
  else
   k2 l1
def diagram_Marks (p_s : Sequence) (p_before : (List Int)) : Option ((List (List UInt8)) × Int) :=
 (sequence_Check p_s).bind fun r1 =>
 if (r1 != 0) = true then
 some ([], r1)
 else
 joinK (joinK (fun (l11 : (List (List UInt8))) =>
  some (l11, 0)) fun k2 =>
  (diagram_cells p_s).bind fun r2 =>
  diagram_Marks_loop2 k2 r2 p_before (Int.toNat ((r2.length : Int) - 0) + 1) 0 ([] : List (List UInt8))) fun k1 =>
  diagram_Marks_loop1 p_s p_before k1 (Int.toNat ((p_before.length : Int) - 0) + 1) 0

def diagram_given (p_l : (List (List UInt8))) (p_most : Int) : Option Int :=
 if (decide ((p_l.length : Int) > p_most)) = true then
 some 5
 else
 (slices_ContainsFunc_stringstring_diagram_given_1 p_l).bind fun r1 =>
  if r1 = true then
  some 17
 else
  some 0

def internal_stringslite_HasPrefix (p_s : (List UInt8)) (p_prefix : (List UInt8)) : Option Bool :=
 (if (decide ((p_s.length : Int) ≥ (p_prefix.length : Int))) = true then (cut p_s 0 (p_prefix.length : Int)).bind fun s1 =>
 some (s1 == p_prefix) else some false).bind fun c1 =>
 some c1

def strings_HasPrefix (p_s : (List UInt8)) (p_prefix : (List UInt8)) : Option Bool :=
 (internal_stringslite_HasPrefix p_s p_prefix).bind fun r1 =>
 some r1

def slices_Index_bytebyte_loop1 (p_s : (List Int)) (p_v : Int) (k1 : (Option Int)) : Nat → Int → Option Int
 | 0, _ => none
 | m1 + 1, i1 => if (decide (i1 < (p_s.length : Int))) = true then
  (at? p_s i1).bind fun x1 =>
   if (p_v == x1) = true then
   some i1
  else
   slices_Index_bytebyte_loop1 p_s p_v k1 m1 (IntKind.wrap .i64 (i1 + 1))
  else
   k1
def slices_Index_bytebyte (p_s : (List Int)) (p_v : Int) : Option Int :=
 joinK (some (-1)) fun k1 =>
 slices_Index_bytebyte_loop1 p_s p_v k1 (Int.toNat ((p_s.length : Int) - 0) + 1) 0

def diagram_Read_loop2 (l2 : (List (List UInt8))) (i1 : Int) (k3 : ((List Stroke) → Option (Sequence × Int))) : Nat → Int → (List Stroke) → Option (Sequence × Int)
 | 0, _, _ => none
 | m2 + 1, i2, l4 => if (decide (i2 < (l2.length : Int))) = true then
  joinK (fun (l6 : (List Stroke)) =>
   diagram_Read_loop2 l2 i1 k3 m2 (IntKind.wrap .i64 (i2 + 1)) l6) fun k4 =>
   (at? l2 i2).bind fun x4 =>
   if (decide (i1 ≥ (x4.length : Int))) = true then
   k4 l4
  else
   (byteAt x4 i1).bind fun b5 =>
    (slices_Index_bytebyte diag_going (b5.toNat : Int)).bind fun r3 =>
    if (decide (r3 ≥ 0)) = true then
    (appO 16 l4 ([(Stroke.mk i2 (r3 == 1))] : List Stroke)).bind fun _ =>
     k4 (l4 ++ ([(Stroke.mk i2 (r3 == 1))] : List Stroke))
   else
    k4 l4
  else
   k3 l4
def diagram_Read_loop1 (l2 : (List (List UInt8))) (k2 : ((List Step) → Option (Sequence × Int))) : Nat → Int → (List Step) → Option (Sequence × Int)
 | 0, _, _ => none
 | m1 + 1, i1, l3 => (at? l2 0).bind fun x3 =>
  if ((decide ((IntKind.wrap .i64 (i1 + 1)) < (x3.length : Int))) && (decide ((l3.length : Int) ≤ 64))) = true then
  joinK (fun (l7 : (List Stroke)) =>
   (appO 32 l3 ([(Step.mk l7 0)] : List Step)).bind fun _ =>
    diagram_Read_loop1 l2 k2 m1 (IntKind.wrap .i64 (i1 + 2)) (l3 ++ ([(Step.mk l7 0)] : List Step))) fun k3 =>
   diagram_Read_loop2 l2 i1 k3 (Int.toNat ((l2.length : Int) - 0) + 1) 0 ([] : List Stroke)
  else
   k2 l3
def diagram_Read_loop3 (k5 : ((List Step) → Option (Sequence × Int))) (l10 : (List (List UInt8))) : Nat → Int → (List Step) → Option (Sequence × Int)
 | 0, _, _ => none
 | m3 + 1, i3, l11 => if (decide (i3 < (l10.length : Int))) = true then
  joinK (fun (l12 : (List Step)) =>
   diagram_Read_loop3 k5 l10 m3 (IntKind.wrap .i64 (i3 + 1)) l12) fun k6 =>
   (at? l10 i3).bind fun x5 =>
   if ((decide (i3 < (l11.length : Int))) && (decide ((x5.length : Int) ≤ 7))) = true then
   (atoiE x5).bind fun r5 =>
    (at? l11 i3).bind fun x6 =>
    k6 (List.set l11 (Int.toNat i3) (Step.mk x6.strokes r5.1))
  else
   k6 l11
  else
   k5 l11
def diagram_Read (p_l : (List (List UInt8))) : Option (Sequence × Int) :=
 (diagram_given p_l 7).bind fun r1 =>
 if (r1 != 0) = true then
 some ((Sequence.mk 0 []), r1)
 else
 joinK (fun (l2 : (List (List UInt8))) (s1 : (List UInt8)) =>
  joinK (fun (l9 : (List Step)) =>
   joinK (fun (l13 : (List Step)) =>
    (sequence_Check (Sequence.mk (l2.length : Int) l13)).bind fun r6 =>
     (if (r6 != 0) = true then some true else (diagram_draw (Sequence.mk (l2.length : Int) l13)).bind fun r7 =>
     (slices_Equal_stringstring r7 p_l).bind fun r8 =>
     some (!r8)).bind fun c2 =>
     if c2 = true then
     some ((Sequence.mk 0 []), 4)
    else
     some ((Sequence.mk (l2.length : Int) l13), 0)) fun k5 =>
    if (!(s1 == [])) = true then
    (splitS s1 [32]).bind fun r4 =>
     (part? r4 1 (r4.length : Int)).bind fun l10 =>
     diagram_Read_loop3 k5 l10 (Int.toNat ((l10.length : Int) - 0) + 1) 0 l9
   else
    k5 l9) fun k2 =>
   if (decide ((l2.length : Int) > 0)) = true then
   diagram_Read_loop1 l2 k2 70 3 ([] : List Step)
  else
   k2 ([] : List Step)) fun k1 =>
  (if (decide ((p_l.length : Int) > 0)) = true then (at? p_l (IntKind.wrap .i64 ((p_l.length : Int) - 1))).bind fun x1 =>
  (strings_HasPrefix x1 [84]).bind fun r2 =>
  some r2 else some false).bind fun c1 =>
  if c1 = true then
  (part? p_l 0 (IntKind.wrap .i64 ((p_l.length : Int) - 1))).bind fun l1 =>
   (at? p_l (IntKind.wrap .i64 ((p_l.length : Int) - 1))).bind fun x2 =>
   k1 l1 x2
 else
  k1 p_l []

def law16_Two  : Option Sequence :=
 some (Sequence.mk 2 ([(Step.mk ([(Stroke.mk 0 true)] : List Stroke) 0), (Step.mk ([(Stroke.mk 1 true)] : List Stroke) 50), (Step.mk ([(Stroke.mk 0 false), (Stroke.mk 1 false)] : List Stroke) 0)] : List Step))

def law16_awake  : Option Bool :=
 (law16_Two).bind fun r1 =>
 (diagram_Draw r1).bind fun r2 =>
 (law16_Two).bind fun r3 =>
 (diagram_Column r3 1).bind fun r4 =>
 (law16_Two).bind fun r5 =>
 (diagram_Switches r5).bind fun r6 =>
 (law16_Two).bind fun r7 =>
 (diagram_Marks r7 ([0, 2] : List Int)).bind fun r8 =>
 (diagram_Read ([[65, 32, 95, 47, 45, 45, 45, 92, 95], [66, 32, 95, 95, 95, 47, 45, 92, 95], [84, 32, 48, 32, 53, 48, 32, 48]] : List (List UInt8))).bind fun r9 =>
 joinK (fun (c1 : Bool) =>
  if c1 = true then
   some false
  else
   (slices_Equal_stringstring r2.1 ([[65, 32, 95, 47, 45, 45, 45, 92, 95], [66, 32, 95, 95, 95, 47, 45, 92, 95], [84, 32, 48, 32, 53, 48, 32, 48]] : List (List UInt8))).bind fun r12 =>
    (if r12 = true then (slices_Equal_stringstring r6.1 ([[65, 48, 32, 35, 46, 46, 35], [65, 49, 32, 46, 35, 35, 46], [66, 48, 32, 35, 35, 46, 35], [66, 49, 32, 46, 46, 35, 46]] : List (List UInt8))).bind fun r13 =>
    some r13 else some false).bind fun c2 =>
    (if c2 = true then (slices_Equal_stringstring r8.1 ([[65, 32, 95, 124, 47, 45, 45, 45, 124, 92, 95], [66, 32, 95, 124, 95, 95, 47, 45, 124, 92, 95]] : List (List UInt8))).bind fun r14 =>
    some r14 else some false).bind fun c3 =>
    some c3) fun k1 =>
 if ((IntKind.wrap .i64 ((IntKind.wrap .i64 ((IntKind.wrap .i64 ((IntKind.wrap .i64 (r2.2 + r4.2)) + r6.2)) + r8.2)) + r9.2)) != 0) = true then
 k1 true
 else
 (law16_Two).bind fun r10 =>
  (ref14_Same r9.1 r10).bind fun r11 =>
  if (!r11) = true then
  k1 true
 else
  k1 (!(r4.1 == [45, 47]))

def ref16_rest (p_out : Bool) : Option (List UInt8) :=
 if p_out = true then
 some [45]
 else
 some [95]

def ref16_First (p_s : Sequence) (p_i : Int) (p_k : Int) : Option (List UInt8) :=
 (at? p_s.steps p_k).bind fun x1 =>
 (ref13_Way x1 p_i).bind fun r1 =>
 if (r1 == 1) = true then
 some [47]
 else
 if (r1 == (-1)) = true then
  some [92]
 else
  (ref14_Behind p_s p_k).bind fun r2 =>
   (at? r2 p_i).bind fun x2 =>
   (ref16_rest x2).bind fun r3 =>
   some r3

def ref16_Name (p_i : Int) : Option (List UInt8) :=
 (cut [65, 66, 67, 68, 69, 70] p_i (IntKind.wrap .i64 (p_i + 1))).bind fun s1 =>
 some s1

def ref14_SameInts_loop1 (p_a : (List Int)) (p_b : (List Int)) (k1 : (Option Bool)) : Nat → Int → Option Bool
 | 0, _ => none
 | m1 + 1, i1 => if (decide (i1 < (p_a.length : Int))) = true then
  (at? p_a i1).bind fun x1 =>
   (at? p_b i1).bind fun x2 =>
   if (x1 != x2) = true then
   some false
  else
   ref14_SameInts_loop1 p_a p_b k1 m1 (IntKind.wrap .i64 (i1 + 1))
  else
   k1
def ref14_SameInts (p_a : (List Int)) (p_b : (List Int)) : Option Bool :=
 if ((p_a.length : Int) != (p_b.length : Int)) = true then
 some false
 else
 joinK (some true) fun k1 =>
  ref14_SameInts_loop1 p_a p_b k1 (Int.toNat ((p_a.length : Int) - 0) + 1) 0

def ref16_common_loop1 (p_l : (List Int)) (p_k : Int) (k1 : (Option (List Int))) : Nat → Int → Option (List Int)
 | 0, _ => none
 | m1 + 1, i1 => if (decide (i1 < (p_l.length : Int))) = true then
  (at? p_l i1).bind fun x1 =>
   if (x1 == p_k) = true then
   some ([p_k] : List Int)
  else
   ref16_common_loop1 p_l p_k k1 m1 (IntKind.wrap .i64 (i1 + 1))
  else
   k1
def ref16_common (p_l : (List Int)) (p_k : Int) : Option (List Int) :=
 joinK (some []) fun k1 =>
 ref16_common_loop1 p_l p_k k1 (Int.toNat ((p_l.length : Int) - 0) + 1) 0

def ref16_drawn_loop3 (p_s : Sequence) (p_widths : (List Int)) (i1 : Int) (i2 : Int) (k6 : ((List UInt8) → Option (List (List UInt8)))) : Nat → (List UInt8) → Int → Option (List (List UInt8))
 | 0, _, _ => none
 | m3 + 1, s5, i3 => (at? p_widths i2).bind fun x1 =>
  if (decide (i3 < x1)) = true then
  (ref16_First p_s i1 i2).bind fun r4 =>
   (catO s5 r4).bind fun s6 =>
   ref16_drawn_loop3 p_s p_widths i1 i2 k6 m3 s6 (IntKind.wrap .i64 (i3 + 1))
  else
   k6 s5
def ref16_drawn_loop2 (p_s : Sequence) (p_marks : (List Int)) (i1 : Int) (k3 : ((List UInt8) → Option (List (List UInt8)))) (p_widths : (List Int)) : Nat → (List UInt8) → Int → Option (List (List UInt8))
 | 0, _, _ => none
 | m2 + 1, s2, i2 => if (decide (i2 < (p_s.steps.length : Int))) = true then
  joinK (fun (s9 : (List UInt8)) =>
   ref16_drawn_loop2 p_s p_marks i1 k3 p_widths m2 s9 (IntKind.wrap .i64 (i2 + 1))) fun k4 =>
   joinK (fun (s4 : (List UInt8)) =>
    joinK (fun (s7 : (List UInt8)) =>
     (ref14_Behind p_s (IntKind.wrap .i64 (i2 + 1))).bind fun r5 =>
      (at? r5 i1).bind fun x2 =>
      (ref16_rest x2).bind fun r6 =>
      (catO s7 r6).bind fun s8 =>
      k4 s8) fun k6 =>
     ref16_drawn_loop3 p_s p_widths i1 i2 k6 4100 s4 0) fun k5 =>
   (ref16_common p_marks i2).bind fun r2 =>
   (ref14_SameInts ([i2] : List Int) r2).bind fun r3 =>
   if r3 = true then
   (catO s2 [124]).bind fun s3 =>
    k5 s3
  else
   k5 s2
  else
   k3 s2
def ref16_drawn_loop1 (p_s : Sequence) (k1 : ((List (List UInt8)) → Option (List (List UInt8)))) (p_marks : (List Int)) (p_widths : (List Int)) : Nat → Int → (List (List UInt8)) → Option (List (List UInt8))
 | 0, _, _ => none
 | m1 + 1, i1, l1 => if (decide (i1 < p_s.actuators)) = true then
  joinK (fun (l3 : (List (List UInt8))) =>
   ref16_drawn_loop1 p_s k1 p_marks p_widths m1 (IntKind.wrap .i64 (i1 + 1)) l3) fun k2 =>
   (ref16_Name i1).bind fun r1 =>
   (catO r1 [32, 95]).bind fun s1 =>
   joinK (fun (s10 : (List UInt8)) =>
    (appO 16 l1 ([s10] : List (List UInt8))).bind fun _ =>
     k2 (l1 ++ ([s10] : List (List UInt8)))) fun k3 =>
   ref16_drawn_loop2 p_s p_marks i1 k3 p_widths (Int.toNat ((p_s.steps.length : Int) - 0) + 1) s1 0
  else
   k1 l1
def ref16_drawn (p_s : Sequence) (p_widths : (List Int)) (p_marks : (List Int)) : Option (List (List UInt8)) :=
 joinK (fun (l4 : (List (List UInt8))) =>
  some l4) fun k1 =>
 ref16_drawn_loop1 p_s k1 p_marks p_widths (Int.toNat (p_s.actuators - 0) + 1) 0 ([] : List (List UInt8))

def ref16_ones_loop1 (p_n : Int) (k1 : ((List Int) → Option (List Int))) : Nat → Int → (List Int) → Option (List Int)
 | 0, _, _ => none
 | m1 + 1, i1, l1 => if (decide (i1 < p_n)) = true then
  (appO 8 l1 ([1] : List Int)).bind fun _ =>
   ref16_ones_loop1 p_n k1 m1 (IntKind.wrap .i64 (i1 + 1)) (l1 ++ ([1] : List Int))
  else
   k1 l1
def ref16_ones (p_n : Int) : Option (List Int) :=
 joinK (fun (l3 : (List Int)) =>
  some l3) fun k1 =>
 ref16_ones_loop1 p_n k1 (Int.toNat (p_n - 0) + 1) 0 ([] : List Int)

def ref16_Waits_loop1 (p_s : Sequence) (k1 : (Option Bool)) : Nat → Int → Option Bool
 | 0, _ => none
 | m1 + 1, i1 => if (decide (i1 < (p_s.steps.length : Int))) = true then
  (at? p_s.steps i1).bind fun x1 =>
   if (x1.wait != 0) = true then
   some true
  else
   ref16_Waits_loop1 p_s k1 m1 (IntKind.wrap .i64 (i1 + 1))
  else
   k1
def ref16_Waits (p_s : Sequence) : Option Bool :=
 joinK (some false) fun k1 =>
 ref16_Waits_loop1 p_s k1 (Int.toNat ((p_s.steps.length : Int) - 0) + 1) 0

def ref12_Digits_loop1 (k1 : ((List UInt8) → Option (List UInt8))) : Nat → Int → (List UInt8) → Option (List UInt8)
 | 0, _, _ => none
 | m1 + 1, i1, s2 => if (decide (i1 > 0)) = true then
  (cut [48, 49, 50, 51, 52, 53, 54, 55, 56, 57] (Int.tmod i1 10) (IntKind.wrap .i64 ((Int.tmod i1 10) + 1))).bind fun s3 =>
   (catO s3 s2).bind fun s4 =>
   ref12_Digits_loop1 k1 m1 (IntKind.wrap .i64 (Int.tdiv i1 10)) s4
  else
   k1 s2
def ref12_Digits (p_n : Int) : Option (List UInt8) :=
 (cut [48, 49, 50, 51, 52, 53, 54, 55, 56, 57] (Int.tmod p_n 10) (IntKind.wrap .i64 ((Int.tmod p_n 10) + 1))).bind fun s1 =>
 joinK (fun (s5 : (List UInt8)) =>
  some s5) fun k1 =>
 ref12_Digits_loop1 k1 (p_n.toNat + 2) (IntKind.wrap .i64 (Int.tdiv p_n 10)) s1

def ref16_Lines_loop3 (p_s : Sequence) (r1 : ((List Int))) (i1 : Int) (i2 : Int) (k6 : ((List UInt8) → Option (List (List UInt8)))) : Nat → (List UInt8) → Int → Option (List (List UInt8))
 | 0, _, _ => none
 | m3 + 1, s5, i3 => (at? r1 i2).bind fun x1 =>
  if (decide (i3 < x1)) = true then
  (ref16_First p_s i1 i2).bind fun r5 =>
   (catO s5 r5).bind fun s6 =>
   ref16_Lines_loop3 p_s r1 i1 i2 k6 m3 s6 (IntKind.wrap .i64 (i3 + 1))
  else
   k6 s5
def ref16_Lines_loop2 (p_s : Sequence) (i1 : Int) (k3 : ((List UInt8) → Option (List (List UInt8)))) (r1 : ((List Int))) : Nat → (List UInt8) → Int → Option (List (List UInt8))
 | 0, _, _ => none
 | m2 + 1, s2, i2 => if (decide (i2 < (p_s.steps.length : Int))) = true then
  joinK (fun (s9 : (List UInt8)) =>
   ref16_Lines_loop2 p_s i1 k3 r1 m2 s9 (IntKind.wrap .i64 (i2 + 1))) fun k4 =>
   joinK (fun (s4 : (List UInt8)) =>
    joinK (fun (s7 : (List UInt8)) =>
     (ref14_Behind p_s (IntKind.wrap .i64 (i2 + 1))).bind fun r6 =>
      (at? r6 i1).bind fun x2 =>
      (ref16_rest x2).bind fun r7 =>
      (catO s7 r7).bind fun s8 =>
      k4 s8) fun k6 =>
     ref16_Lines_loop3 p_s r1 i1 i2 k6 3 s4 0) fun k5 =>
   (ref16_common [] i2).bind fun r3 =>
   (ref14_SameInts ([i2] : List Int) r3).bind fun r4 =>
   if r4 = true then
   (catO s2 [124]).bind fun s3 =>
    k5 s3
  else
   k5 s2
  else
   k3 s2
def ref16_Lines_loop1 (p_s : Sequence) (k1 : ((List (List UInt8)) → Option (List (List UInt8)))) (r1 : ((List Int))) : Nat → Int → (List (List UInt8)) → Option (List (List UInt8))
 | 0, _, _ => none
 | m1 + 1, i1, l1 => if (decide (i1 < p_s.actuators)) = true then
  joinK (fun (l3 : (List (List UInt8))) =>
   ref16_Lines_loop1 p_s k1 r1 m1 (IntKind.wrap .i64 (i1 + 1)) l3) fun k2 =>
   (ref16_Name i1).bind fun r2 =>
   (catO r2 [32, 95]).bind fun s1 =>
   joinK (fun (s10 : (List UInt8)) =>
    (appO 16 l1 ([s10] : List (List UInt8))).bind fun _ =>
     k2 (l1 ++ ([s10] : List (List UInt8)))) fun k3 =>
   ref16_Lines_loop2 p_s i1 k3 r1 (Int.toNat ((p_s.steps.length : Int) - 0) + 1) s1 0
  else
   k1 l1
def ref16_Lines_loop4 (p_s : Sequence) (k7 : ((List UInt8) → Option (List (List UInt8)))) : Nat → (List UInt8) → Int → Option (List (List UInt8))
 | 0, _, _ => none
 | m4 + 1, s11, i4 => if (decide (i4 < (p_s.steps.length : Int))) = true then
  (at? p_s.steps i4).bind fun x3 =>
   (ref12_Digits x3.wait).bind fun r9 =>
   (catO [32] r9).bind fun s12 =>
   (catO s11 s12).bind fun s13 =>
   ref16_Lines_loop4 p_s k7 m4 s13 (IntKind.wrap .i64 (i4 + 1))
  else
   k7 s11
def ref16_Lines (p_s : Sequence) : Option (List (List UInt8)) :=
 (ref16_ones (p_s.steps.length : Int)).bind fun r1 =>
 joinK (fun (l4 : (List (List UInt8))) =>
  (ref16_Waits p_s).bind fun r8 =>
   if (!r8) = true then
   some l4
  else
   joinK (fun (s14 : (List UInt8)) =>
    (appO 16 l4 ([s14] : List (List UInt8))).bind fun _ =>
     some (l4 ++ ([s14] : List (List UInt8)))) fun k7 =>
    ref16_Lines_loop4 p_s k7 (Int.toNat ((p_s.steps.length : Int) - 0) + 1) [84] 0) fun k1 =>
 ref16_Lines_loop1 p_s k1 r1 (Int.toNat (p_s.actuators - 0) + 1) 0 ([] : List (List UInt8))

def ref16_Draw (p_s : Sequence) : Option ((List (List UInt8)) × Int) :=
 (ref14_Check p_s).bind fun r1 =>
 if (r1 != 0) = true then
 some ([], r1)
 else
 (ref16_Lines p_s).bind fun r2 =>
  some (r2, 0)

def diagram_stretched_loop2 (p_counts : (List Int)) (x1 : (List Cell)) (k3 : ((List UInt8) → Option (List (List UInt8)))) : Nat → Int → (List UInt8) → Option (List (List UInt8))
 | 0, _, _ => none
 | m2 + 1, i2, l3 => if (decide (i2 < (x1.length : Int))) = true then
  (at? x1 i2).bind fun x2 =>
   (at? p_counts i2).bind fun x3 =>
   (repS ((Utf8.encode (IntKind.wrap .i32 x2.first)).data.toList) x3).bind fun r3 =>
   (appO 1 l3 r3).bind fun _ =>
   (guardO (decide (0 ≤ x2.second) && decide (x2.second ≤ 255))).bind fun _ =>
   (appO 1 (l3 ++ r3) ([(UInt8.ofNat (Int.toNat x2.second))] : List UInt8)).bind fun _ =>
   diagram_stretched_loop2 p_counts x1 k3 m2 (IntKind.wrap .i64 (i2 + 1)) ((l3 ++ r3) ++ ([(UInt8.ofNat (Int.toNat x2.second))] : List UInt8))
  else
   k3 l3
def diagram_stretched_loop1 (k1 : ((List (List UInt8)) → Option (List (List UInt8)))) (r1 : ((List (List Cell)))) (p_counts : (List Int)) : Nat → Int → (List (List UInt8)) → Option (List (List UInt8))
 | 0, _, _ => none
 | m1 + 1, i1, l1 => if (decide (i1 < (r1.length : Int))) = true then
  joinK (fun (l8 : (List (List UInt8))) =>
   diagram_stretched_loop1 k1 r1 p_counts m1 (IntKind.wrap .i64 (i1 + 1)) l8) fun k2 =>
   (at? r1 i1).bind fun x1 =>
   (diagram_letter i1).bind fun r2 =>
   (catO r2 [32, 95]).bind fun s2 =>
   (appO 1 ([] : List UInt8) s2).bind fun _ =>
   joinK (fun (l6 : (List UInt8)) =>
    (appO 16 l1 ([l6] : List (List UInt8))).bind fun _ =>
     k2 (l1 ++ ([l6] : List (List UInt8)))) fun k3 =>
   diagram_stretched_loop2 p_counts x1 k3 (Int.toNat ((x1.length : Int) - 0) + 1) 0 (([] : List UInt8) ++ s2)
  else
   k1 l1
def diagram_stretched (p_s : Sequence) (p_counts : (List Int)) : Option (List (List UInt8)) :=
 joinK (fun (l9 : (List (List UInt8))) =>
  some l9) fun k1 =>
 (diagram_cells p_s).bind fun r1 =>
 diagram_stretched_loop1 k1 r1 p_counts (Int.toNat ((r1.length : Int) - 0) + 1) 0 ([] : List (List UInt8))

def ref16_FewLines_loop1 (p_l : (List (List UInt8))) (k1 : (Option Bool)) : Nat → Int → Option Bool
 | 0, _ => none
 | m1 + 1, i1 => if ((decide (i1 < (p_l.length : Int))) && (decide (i1 < 10))) = true then
  (at? p_l i1).bind fun x1 =>
   (if (decide ((x1.length : Int) > 300)) = true then (at? p_l i1).bind fun x2 =>
   (if (decide ((x2.length : Int) ≤ 4096)) = true then some true else (at? p_l i1).bind fun x3 =>
   some (decide ((x3.length : Int) > 8192))).bind fun c2 =>
   some c2 else some false).bind fun c1 =>
   if c1 = true then
   some false
  else
   ref16_FewLines_loop1 p_l k1 m1 (IntKind.wrap .i64 (i1 + 1))
  else
   k1
def ref16_FewLines (p_l : (List (List UInt8))) : Option Bool :=
 joinK (some (decide ((p_l.length : Int) ≤ 10))) fun k1 =>
 ref16_FewLines_loop1 p_l k1 11 0

def ref16_limited_loop1 (p_lines : (List (List UInt8))) (k1 : (Option Int)) : Nat → Int → Option Int
 | 0, _ => none
 | m1 + 1, i1 => if (decide (i1 < (p_lines.length : Int))) = true then
  (at? p_lines i1).bind fun x1 =>
   if (decide ((x1.length : Int) > 4096)) = true then
   some 17
  else
   ref16_limited_loop1 p_lines k1 m1 (IntKind.wrap .i64 (i1 + 1))
  else
   k1
def ref16_limited (p_lines : (List (List UInt8))) (p_most : Int) : Option Int :=
 if (decide ((p_lines.length : Int) > p_most)) = true then
 some 5
 else
 joinK (some 0) fun k1 =>
  ref16_limited_loop1 p_lines k1 (Int.toNat ((p_lines.length : Int) - 0) + 1) 0

def ref12_Fields_loop1 (p_line : (List UInt8)) (k1 : ((List (List UInt8)) → Option (List (List UInt8)))) : Nat → (List UInt8) → Int → (List (List UInt8)) → Option (List (List UInt8))
 | 0, _, _, _ => none
 | m1 + 1, s1, i1, l1 => if (decide (i1 ≤ (p_line.length : Int))) = true then
  joinK (fun (s4 : (List UInt8)) (l4 : (List (List UInt8))) =>
   ref12_Fields_loop1 p_line k1 m1 s4 (IntKind.wrap .i64 (i1 + 1)) l4) fun k2 =>
   (if (decide (i1 < (p_line.length : Int))) = true then (byteAt p_line i1).bind fun b1 =>
   some ((b1.toNat : Int) != 32) else some false).bind fun c1 =>
   if c1 = true then
   (cut p_line i1 (IntKind.wrap .i64 (i1 + 1))).bind fun s2 =>
    (catO s1 s2).bind fun s3 =>
    k2 s3 l1
  else
   joinK (fun (l3 : (List (List UInt8))) =>
    k2 [] l3) fun k3 =>
    if (!(s1 == [])) = true then
    (appO 16 l1 ([s1] : List (List UInt8))).bind fun _ =>
     k3 (l1 ++ ([s1] : List (List UInt8)))
   else
    k3 l1
  else
   k1 l1
def ref12_Fields (p_line : (List UInt8)) : Option (List (List UInt8)) :=
 joinK (fun (l5 : (List (List UInt8))) =>
  some l5) fun k1 =>
 ref12_Fields_loop1 p_line k1 (p_line.length + 2) [] 0 ([] : List (List UInt8))

def ref12_Digit (p_b : Int) : Option Bool :=
 some ((decide (p_b ≥ 48)) && (decide (p_b ≤ 57)))

def ref12_Number_loop1 (p_s : (List UInt8)) (k1 : (Option Int)) : Nat → Int → Option Int
 | 0, _ => none
 | m1 + 1, i1 => if (decide (i1 < (p_s.length : Int))) = true then
  (byteAt p_s i1).bind fun b2 =>
   (ref12_Digit (b2.toNat : Int)).bind fun r1 =>
   if (!r1) = true then
   some 3
  else
   ref12_Number_loop1 p_s k1 m1 (IntKind.wrap .i64 (i1 + 1))
  else
   k1
def ref12_Number (p_s : (List UInt8)) : Option Int :=
 (if ((p_s.length : Int) == 0) = true then some true else (if (decide ((p_s.length : Int) > 1)) = true then (byteAt p_s 0).bind fun b1 =>
 some ((b1.toNat : Int) == 48) else some false).bind fun c2 =>
 some c2).bind fun c1 =>
 if c1 = true then
 some 3
 else
 joinK (if (decide ((p_s.length : Int) > 7)) = true then
  some 17
 else
  some 0) fun k1 =>
  ref12_Number_loop1 p_s k1 (Int.toNat ((p_s.length : Int) - 0) + 1) 0

def ref12_Worth_loop1 (p_s : (List UInt8)) (k1 : (Int → Option Int)) : Nat → Int → Int → Option Int
 | 0, _, _ => none
 | m1 + 1, i1, i2 => if (decide (i2 < (p_s.length : Int))) = true then
  (byteAt p_s i2).bind fun b1 =>
   ref12_Worth_loop1 p_s k1 m1 (IntKind.wrap .i64 ((IntKind.wrap .i64 (10 * i1)) + (IntKind.wrap .i64 (IntKind.wrap .u8 ((b1.toNat : Int) - 48))))) (IntKind.wrap .i64 (i2 + 1))
  else
   k1 i1
def ref12_Worth (p_s : (List UInt8)) : Option Int :=
 joinK (fun (i3 : Int) =>
  some i3) fun k1 =>
 ref12_Worth_loop1 p_s k1 (Int.toNat ((p_s.length : Int) - 0) + 1) 0 0

def ref12_Value (p_s : (List UInt8)) : Option (Int × Int) :=
 joinK (fun (s2 : (List UInt8)) (i1 : Int) =>
  if ((decide (i1 < 0)) && (s2 == [48])) = true then
   some (0, 3)
  else
   (ref12_Number s2).bind fun r1 =>
    if (r1 != 0) = true then
    some (0, r1)
   else
    (ref12_Worth s2).bind fun r2 =>
     some ((IntKind.wrap .i64 (i1 * r2)), 0)) fun k1 =>
 (if (decide ((p_s.length : Int) > 0)) = true then (byteAt p_s 0).bind fun b1 =>
 some ((b1.toNat : Int) == 45) else some false).bind fun c1 =>
 if c1 = true then
 (cut p_s 1 (p_s.length : Int)).bind fun s1 =>
  k1 s1 (-1)
 else
 k1 p_s 1

def ref16_delays_loop1 (r1 : ((List (List UInt8)))) (k1 : ((List Int) → Option (List Int))) : Nat → Int → (List Int) → Option (List Int)
 | 0, _, _ => none
 | m1 + 1, i1, l1 => if (decide (i1 < (r1.length : Int))) = true then
  (at? r1 i1).bind fun x1 =>
   (ref12_Value x1).bind fun r2 =>
   (appO 8 l1 ([r2.1] : List Int)).bind fun _ =>
   ref16_delays_loop1 r1 k1 m1 (IntKind.wrap .i64 (i1 + 1)) (l1 ++ ([r2.1] : List Int))
  else
   k1 l1
def ref16_delays (p_line : (List UInt8)) : Option (List Int) :=
 (ref12_Fields p_line).bind fun r1 =>
 joinK (fun (l3 : (List Int)) =>
  some l3) fun k1 =>
 ref16_delays_loop1 r1 k1 (Int.toNat ((r1.length : Int) - 1) + 1) 1 ([] : List Int)

def ref16_moved_loop1 (p_lines : (List (List UInt8))) (p_at : Int) (k1 : ((List Stroke) → Option Step)) : Nat → Int → (List Stroke) → Option Step
 | 0, _, _ => none
 | m1 + 1, i1, l1 => if (decide (i1 < (p_lines.length : Int))) = true then
  joinK (fun (l3 : (List Stroke)) =>
   ref16_moved_loop1 p_lines p_at k1 m1 (IntKind.wrap .i64 (i1 + 1)) l3) fun k2 =>
   (at? p_lines i1).bind fun x1 =>
   (if (decide (p_at < (x1.length : Int))) = true then (at? p_lines i1).bind fun x2 =>
   (byteAt x2 p_at).bind fun b3 =>
   (if ((b3.toNat : Int) == 47) = true then some true else (at? p_lines i1).bind fun x3 =>
   (byteAt x3 p_at).bind fun b4 =>
   some ((b4.toNat : Int) == 92)).bind fun c2 =>
   some c2 else some false).bind fun c1 =>
   if c1 = true then
   (at? p_lines i1).bind fun x4 =>
    (byteAt x4 p_at).bind fun b5 =>
    (appO 16 l1 ([(Stroke.mk i1 ((b5.toNat : Int) == 47))] : List Stroke)).bind fun _ =>
    k2 (l1 ++ ([(Stroke.mk i1 ((b5.toNat : Int) == 47))] : List Stroke))
  else
   k2 l1
  else
   k1 l1
def ref16_moved (p_lines : (List (List UInt8))) (p_at : Int) : Option Step :=
 joinK (fun (l4 : (List Stroke)) =>
  some (Step.mk l4 0)) fun k1 =>
 ref16_moved_loop1 p_lines p_at k1 (Int.toNat ((p_lines.length : Int) - 0) + 1) 0 ([] : List Stroke)

def ref16_Guess_loop1 (l2 : (List (List UInt8))) (l3 : (List Int)) (k2 : ((List Step) → Option Sequence)) : Nat → Int → (List Step) → Option Sequence
 | 0, _, _ => none
 | m1 + 1, i2, l4 => (at? l2 0).bind fun x4 =>
  if ((decide (i2 < (x4.length : Int))) && (decide ((l4.length : Int) ≤ 64))) = true then
  (ref16_moved l2 i2).bind fun r2 =>
   joinK (fun (i3 : Int) =>
    (appO 32 l4 ([(Step.mk r2.strokes i3)] : List Step)).bind fun _ =>
     ref16_Guess_loop1 l2 l3 k2 m1 (IntKind.wrap .i64 (i2 + 2)) (l4 ++ ([(Step.mk r2.strokes i3)] : List Step))) fun k3 =>
   if (decide ((l4.length : Int) < (l3.length : Int))) = true then
   (at? l3 (l4.length : Int)).bind fun x5 =>
    k3 x5
  else
   k3 r2.wait
  else
   k2 l4
def ref16_Guess (p_lines : (List (List UInt8))) : Option Sequence :=
 joinK (fun (l2 : (List (List UInt8))) (l3 : (List Int)) (i1 : Int) =>
  if ((l2.length : Int) == 0) = true then
   some (Sequence.mk i1 [])
  else
   joinK (fun (l6 : (List Step)) =>
    some (Sequence.mk i1 l6)) fun k2 =>
    ref16_Guess_loop1 l2 l3 k2 70 3 ([] : List Step)) fun k1 =>
 (if (decide ((IntKind.wrap .i64 ((p_lines.length : Int) - 1)) ≥ 0)) = true then (at? p_lines (IntKind.wrap .i64 ((p_lines.length : Int) - 1))).bind fun x1 =>
 some (decide ((x1.length : Int) > 0)) else some false).bind fun c1 =>
 (if c1 = true then (at? p_lines (IntKind.wrap .i64 ((p_lines.length : Int) - 1))).bind fun x2 =>
 (byteAt x2 0).bind fun b3 =>
 some ((b3.toNat : Int) == 84) else some false).bind fun c2 =>
 if c2 = true then
 (at? p_lines (IntKind.wrap .i64 ((p_lines.length : Int) - 1))).bind fun x3 =>
  (ref16_delays x3).bind fun r1 =>
  (part? p_lines 0 (IntKind.wrap .i64 ((p_lines.length : Int) - 1))).bind fun l1 =>
  k1 l1 r1 (IntKind.wrap .i64 ((p_lines.length : Int) - 1))
 else
 k1 p_lines [] (p_lines.length : Int)

def ref12_SameTexts_loop1 (p_a : (List (List UInt8))) (p_b : (List (List UInt8))) (k1 : (Option Bool)) : Nat → Int → Option Bool
 | 0, _ => none
 | m1 + 1, i1 => if (decide (i1 < (p_a.length : Int))) = true then
  (at? p_a i1).bind fun x1 =>
   (at? p_b i1).bind fun x2 =>
   if (!(x1 == x2)) = true then
   some false
  else
   ref12_SameTexts_loop1 p_a p_b k1 m1 (IntKind.wrap .i64 (i1 + 1))
  else
   k1
def ref12_SameTexts (p_a : (List (List UInt8))) (p_b : (List (List UInt8))) : Option Bool :=
 if ((p_a.length : Int) != (p_b.length : Int)) = true then
 some false
 else
 joinK (some true) fun k1 =>
  ref12_SameTexts_loop1 p_a p_b k1 (Int.toNat ((p_a.length : Int) - 0) + 1) 0

def ref16_Read (p_lines : (List (List UInt8))) : Option (Sequence × Int) :=
 (ref16_limited p_lines 7).bind fun r1 =>
 if (r1 != 0) = true then
 some ((Sequence.mk 0 []), r1)
 else
 (ref16_Guess p_lines).bind fun r2 =>
  (ref16_Draw r2).bind fun r3 =>
  (if (r3.2 != 0) = true then some true else (ref12_SameTexts r3.1 p_lines).bind fun r4 =>
  some (!r4)).bind fun c1 =>
  if c1 = true then
  some ((Sequence.mk 0 []), 4)
 else
  some (r2, 0)

def diagram_Unscale_loop2 (p_l : (List (List UInt8))) (n1 : Nat) (k2 : ((List Stroke) → Option (Sequence × (List Int) × Int))) : Nat → Int → (List Stroke) → Option (Sequence × (List Int) × Int)
 | 0, _, _ => none
 | m2 + 1, i2, l3 => if (decide (i2 < (p_l.length : Int))) = true then
  joinK (fun (l5 : (List Stroke)) =>
   diagram_Unscale_loop2 p_l n1 k2 m2 (IntKind.wrap .i64 (i2 + 1)) l5) fun k3 =>
   (at? p_l i2).bind fun x2 =>
   if (decide ((n1 : Int) ≥ (x2.length : Int))) = true then
   k3 l3
  else
   (byteAt x2 (n1 : Int)).bind fun b6 =>
    (slices_Index_bytebyte diag_going (b6.toNat : Int)).bind fun r2 =>
    if (decide (r2 ≥ 0)) = true then
    (appO 16 l3 ([(Stroke.mk i2 (r2 == 1))] : List Stroke)).bind fun _ =>
     k3 (l3 ++ ([(Stroke.mk i2 (r2 == 1))] : List Stroke))
   else
    k3 l3
  else
   k2 l3
def diagram_Unscale_loop1 (p_l : (List (List UInt8))) (k1 : ((List Int) → (List Step) → Option (Sequence × (List Int) × Int))) (x1 : (List UInt8)) : Nat → Int → (List Int) → Nat → (List Step) → Option (Sequence × (List Int) × Int)
 | 0, _, _, _, _ => none
 | m1 + 1, i1, l1, n1, l2 => if (decide (n1 < x1.length)) = true then
  if ((decide ((n1 : Int) < 3)) || (decide ((l2.length : Int) > 64))) = true then
   diagram_Unscale_loop1 p_l k1 x1 m1 i1 l1 (n1 + (decW x1 n1).2) l2
  else
   joinK (fun (l6 : (List Stroke)) =>
    if (decide ((l6.length : Int) > 0)) = true then
     joinK (fun (l8 : (List Step)) =>
      diagram_Unscale_loop1 p_l k1 x1 m1 (IntKind.wrap .i64 (i1 + 1)) l1 (n1 + (decW x1 n1).2) l8) fun k4 =>
      if (i1 == 0) = true then
      (appO 32 l2 ([(Step.mk l6 0)] : List Step)).bind fun _ =>
       k4 (l2 ++ ([(Step.mk l6 0)] : List Step))
     else
      k4 l2
    else
     if (decide (i1 > 0)) = true then
      (appO 8 l1 ([i1] : List Int)).bind fun _ =>
       diagram_Unscale_loop1 p_l k1 x1 m1 0 (l1 ++ ([i1] : List Int)) (n1 + (decW x1 n1).2) l2
     else
      diagram_Unscale_loop1 p_l k1 x1 m1 i1 l1 (n1 + (decW x1 n1).2) l2) fun k2 =>
    diagram_Unscale_loop2 p_l n1 k2 (Int.toNat ((p_l.length : Int) - 0) + 1) 0 ([] : List Stroke)
  else
   k1 l1 l2
def diagram_Unscale (p_l : (List (List UInt8))) : Option (Sequence × (List Int) × Int) :=
 (diagram_given p_l 6).bind fun r1 =>
 if (r1 != 0) = true then
 some ((Sequence.mk 0 []), [], r1)
 else
 joinK (fun (l10 : (List Int)) (l11 : (List Step)) =>
  (sequence_Check (Sequence.mk (p_l.length : Int) l11)).bind fun r3 =>
   (if ((r3 != 0) || ((l10.length : Int) != (l11.length : Int))) = true then some true else (diagram_stretched (Sequence.mk (p_l.length : Int) l11) l10).bind fun r4 =>
   (slices_Equal_stringstring r4 p_l).bind fun r5 =>
   some (!r5)).bind fun c1 =>
   if c1 = true then
   some ((Sequence.mk 0 []), [], 4)
  else
   some ((Sequence.mk (p_l.length : Int) l11), l10, 0)) fun k1 =>
  if (decide ((p_l.length : Int) > 0)) = true then
  (at? p_l 0).bind fun x1 =>
   diagram_Unscale_loop1 p_l k1 x1 (x1.length - 0 + 1) 0 ([] : List Int) 0 ([] : List Step)
 else
  k1 ([] : List Int) ([] : List Step)

def ref16_Unguess_loop2 (i1 : Int) (x2 : (List UInt8)) (k2 : (Int → Option (Sequence × (List Int)))) : Nat → Int → Option (Sequence × (List Int))
 | 0, _ => none
 | m2 + 1, i2 => (if (decide ((IntKind.wrap .i64 (i1 + i2)) < (x2.length : Int))) = true then (byteAt x2 (IntKind.wrap .i64 (i1 + i2))).bind fun b4 =>
  (byteAt x2 i1).bind fun b5 =>
  some ((b4.toNat : Int) == (b5.toNat : Int)) else some false).bind fun c1 =>
  if c1 = true then
  ref16_Unguess_loop2 i1 x2 k2 m2 (IntKind.wrap .i64 (i2 + 1))
  else
   k2 i2
def ref16_Unguess_loop1 (p_lines : (List (List UInt8))) (k1 : ((List Int) → (List Step) → Option (Sequence × (List Int)))) : Nat → Int → (List Int) → (List Step) → Option (Sequence × (List Int))
 | 0, _, _, _ => none
 | m1 + 1, i1, l1, l2 => if (decide ((l2.length : Int) ≤ 64)) = true then
  (ref16_moved p_lines i1).bind fun r1 =>
   if ((r1.strokes.length : Int) == 0) = true then
   some ((Sequence.mk (p_lines.length : Int) l2), l1)
  else
   (at? r1.strokes 0).bind fun x1 =>
    (at? p_lines x1.actuator).bind fun x2 =>
    joinK (fun (i3 : Int) =>
     (appO 32 l2 ([r1] : List Step)).bind fun _ =>
      (appO 8 l1 ([i3] : List Int)).bind fun _ =>
      ref16_Unguess_loop1 p_lines k1 m1 (IntKind.wrap .i64 (i1 + (IntKind.wrap .i64 (i3 + 1)))) (l1 ++ ([i3] : List Int)) (l2 ++ ([r1] : List Step))) fun k2 =>
    ref16_Unguess_loop2 i1 x2 k2 4100 0
  else
   k1 l1 l2
def ref16_Unguess (p_lines : (List (List UInt8))) : Option (Sequence × (List Int)) :=
 joinK (fun (l5 : (List Int)) (l6 : (List Step)) =>
  some ((Sequence.mk (p_lines.length : Int) l6), l5)) fun k1 =>
 ref16_Unguess_loop1 p_lines k1 70 3 ([] : List Int) ([] : List Step)

def ref16_Unscale (p_lines : (List (List UInt8))) : Option (Sequence × (List Int) × Int) :=
 (ref16_limited p_lines 6).bind fun r1 =>
 if (r1 != 0) = true then
 some ((Sequence.mk 0 []), [], r1)
 else
 (ref16_Unguess p_lines).bind fun r2 =>
  (ref14_Check r2.1).bind fun r3 =>
  (if (r3 != 0) = true then some true else (ref16_drawn r2.1 r2.2 []).bind fun r4 =>
  (ref12_SameTexts r4 p_lines).bind fun r5 =>
  some (!r5)).bind fun c1 =>
  if c1 = true then
  some ((Sequence.mk 0 []), [], 4)
 else
  some (r2.1, r2.2, 0)

def law16_DiagramReads (p_lines : (List (List UInt8))) : Option Bool :=
 (ref16_FewLines p_lines).bind fun r1 =>
 if (!r1) = true then
 (law16_awake).bind fun r2 =>
  some r2
 else
 (diagram_Read p_lines).bind fun r3 =>
  (ref16_Read p_lines).bind fun r4 =>
  (diagram_Unscale p_lines).bind fun r5 =>
  (ref16_Unscale p_lines).bind fun r6 =>
  (law16_awake).bind fun r7 =>
  (if r7 = true then (ref14_Same r3.1 r4.1).bind fun r8 =>
  some r8 else some false).bind fun c1 =>
  (if (c1 && (r3.2 == r4.2)) = true then (ref14_Same r5.1 r6.1).bind fun r9 =>
  some r9 else some false).bind fun c2 =>
  (if c2 = true then (slices_Equal_intint r5.2.1 r6.2.1).bind fun r10 =>
  some r10 else some false).bind fun c3 =>
  some (c3 && (r5.2.2 == r6.2.2))

end Go.Proofs.YtbckcjjffbgidaaGreatDoor.W
