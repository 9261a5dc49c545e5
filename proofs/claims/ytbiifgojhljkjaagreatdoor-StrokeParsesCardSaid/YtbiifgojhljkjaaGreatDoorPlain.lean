/- The plain functions. Written by our own program gen.py; Lean checks it. -/
import Derived.Test.YtbiifgojhljkjaaGreatDoorTypes
import Derived.Test.YtbiifgojhljkjaaGreatDoorExt
set_option linter.unusedVariables false
set_option maxRecDepth 100000
set_option maxHeartbeats 4000000
namespace Go.Proofs.YtbiifgojhljkjaaGreatDoor.W
open Go Go.RowKit
def ref13_Few (p_x : Step) (p_ends : (List Bool)) : Option Bool :=
  some ((decide ((p_x.strokes.length : Int) ≤ 40)) && (decide ((p_ends.length : Int) ≤ 40)))

def slices_IndexFunc_api_Stepapi_Step_law13_StrokeFormats_1_loop1 (p_s : (List Step)) (k1 : (Option Int)) : Nat → Int → Option Int
  | 0, _ => none
  | m1 + 1, i1 => if (decide (i1 < (p_s.length : Int))) = true then
      (at? p_s i1).bind fun x1 =>
        (ref13_Few x1 []).bind fun r1 =>
        if (!r1) = true then
        some i1
      else
        slices_IndexFunc_api_Stepapi_Step_law13_StrokeFormats_1_loop1 p_s k1 m1 (IntKind.wrap .i64 (i1 + 1))
    else
      k1
def slices_IndexFunc_api_Stepapi_Step_law13_StrokeFormats_1 (p_s : (List Step)) : Option Int :=
  joinK (some (-1)) fun k1 =>
  slices_IndexFunc_api_Stepapi_Step_law13_StrokeFormats_1_loop1 p_s k1 (Int.toNat ((p_s.length : Int) - 0) + 1) 0

def slices_ContainsFunc_api_Stepapi_Step_law13_StrokeFormats_1 (p_s : (List Step)) : Option Bool :=
  (slices_IndexFunc_api_Stepapi_Step_law13_StrokeFormats_1 p_s).bind fun r1 =>
  some (decide (r1 ≥ 0))

def internal_strconv_Atoi_loop1 (s2 : (List UInt8)) (k3 : (Int → Option (Int × Unit))) : Nat → Int → Int → Option (Int × Unit)
  | 0, _, _ => none
  | m1 + 1, i1, i2 => if (decide (i2 < ((bytesI s2).length : Int))) = true then
      (at? (bytesI s2) i2).bind fun x1 =>
        if (decide ((IntKind.wrap .u8 (x1 - 48)) > 9)) = true then
        none
      else
        internal_strconv_Atoi_loop1 s2 k3 m1 (IntKind.wrap .i64 ((IntKind.wrap .i64 (i1 * 10)) + (IntKind.wrap .i64 (IntKind.wrap .u8 (x1 - 48))))) (IntKind.wrap .i64 (i2 + 1))
    else
      k3 i1
def internal_strconv_Atoi (p_s : (List UInt8)) : Option (Int × Unit) :=
  joinK (none) fun k1 =>
  if ((decide ((0 : Int) < (p_s.length : Int))) && (decide ((p_s.length : Int) < 19))) = true then
  joinK (fun (s2 : (List UInt8)) =>
      joinK (fun (i3 : Int) =>
          joinK (fun (i4 : Int) =>
              some (i4, ())) fun k4 =>
            (byteAt p_s 0).bind fun b3 =>
            if ((b3.toNat : Int) == 45) = true then
            k4 (IntKind.wrap .i64 (0 - i3))
          else
            k4 i3) fun k3 =>
        internal_strconv_Atoi_loop1 s2 k3 (Int.toNat (((bytesI s2).length : Int) - 0) + 1) 0 0) fun k2 =>
    (byteAt p_s 0).bind fun b1 =>
    (if ((b1.toNat : Int) == 45) = true then some true else (byteAt p_s 0).bind fun b2 =>
    some ((b2.toNat : Int) == 43)).bind fun c1 =>
    if c1 = true then
    (cut p_s 1 (p_s.length : Int)).bind fun s1 =>
      if (decide ((s1.length : Int) < 1)) = true then
      none
    else
      k2 s1
  else
    k2 p_s
  else
  k1

def strconv_Atoi (p_s : (List UInt8)) : Option (Int × Unit) :=
  (internal_strconv_Atoi p_s).bind fun r1 =>
  some (r1.1, ())

def stroke_known (p_n : Int) : Option Bool :=
  some ((decide (p_n ≥ 0)) && (decide (p_n < 6)))

def stroke_CheckStep_loop1 (p_x : Step) (k1 : (Option Int)) : Nat → Int → Int → Option Int
  | 0, _, _ => none
  | m1 + 1, i1, i2 => if (decide (i2 < (p_x.strokes.length : Int))) = true then
      (at? p_x.strokes i2).bind fun x1 =>
        (stroke_known x1.actuator).bind fun r1 =>
        if (!r1) = true then
        some 2
      else
        if (x1.actuator == i1) = true then
          some 7
        else
          if (decide (x1.actuator < i1)) = true then
            some 9
          else
            stroke_CheckStep_loop1 p_x k1 m1 x1.actuator (IntKind.wrap .i64 (i2 + 1))
    else
      k1
def stroke_CheckStep (p_x : Step) : Option Int :=
  if ((p_x.strokes.length : Int) == 0) = true then
  some 13
  else
  if (decide ((p_x.strokes.length : Int) > 6)) = true then
    some 5
  else
    joinK (if ((decide (p_x.wait < 0)) || (decide (p_x.wait > 1000000))) = true then
      some 2
    else
      some 0) fun k1 =>
      stroke_CheckStep_loop1 p_x k1 (Int.toNat ((p_x.strokes.length : Int) - 0) + 1) (-1) 0

def stroke_written (p_x : Stroke) : Option (List UInt8) :=
  if p_x.out = true then
  (catO ((Utf8.encode (IntKind.wrap .i32 (IntKind.wrap .i64 (65 + p_x.actuator)))).data.toList) [43]).bind fun s1 =>
    some s1
  else
  (catO ((Utf8.encode (IntKind.wrap .i32 (IntKind.wrap .i64 (65 + p_x.actuator)))).data.toList) [45]).bind fun s2 =>
    some s2

def stroke_Format_loop2 (x1 : Step) (k3 : ((List (List UInt8)) → Option ((List UInt8) × Int))) : Nat → Int → (List (List UInt8)) → Option ((List UInt8) × Int)
  | 0, _, _ => none
  | m2 + 1, i2, l2 => if (decide (i2 < (x1.strokes.length : Int))) = true then
      (at? x1.strokes i2).bind fun x2 =>
        (stroke_written x2).bind fun r2 =>
        (appO 16 l2 ([r2] : List (List UInt8))).bind fun _ =>
        stroke_Format_loop2 x1 k3 m2 (IntKind.wrap .i64 (i2 + 1)) (l2 ++ ([r2] : List (List UInt8)))
    else
      k3 l2
def stroke_Format_loop1 (p_l : (List Step)) (k1 : ((List (List UInt8)) → Option ((List UInt8) × Int))) : Nat → Int → (List (List UInt8)) → Option ((List UInt8) × Int)
  | 0, _, _ => none
  | m1 + 1, i1, l1 => if (decide (i1 < (p_l.length : Int))) = true then
      joinK (fun (l8 : (List (List UInt8))) =>
          stroke_Format_loop1 p_l k1 m1 (IntKind.wrap .i64 (i1 + 1)) l8) fun k2 =>
        (at? p_l i1).bind fun x1 =>
        (stroke_CheckStep x1).bind fun r1 =>
        if (r1 != 0) = true then
        some ([], r1)
      else
        joinK (fun (l4 : (List (List UInt8))) =>
            joinK (fun (l6 : (List (List UInt8))) =>
                (joinS l6 [32]).bind fun r4 =>
                  (appO 16 l1 ([r4] : List (List UInt8))).bind fun _ =>
                  k2 (l1 ++ ([r4] : List (List UInt8)))) fun k4 =>
              if (decide (x1.wait > 0)) = true then
              (itoa x1.wait).bind fun r3 =>
                (appO 16 l4 ([r3] : List (List UInt8))).bind fun _ =>
                k4 (l4 ++ ([r3] : List (List UInt8)))
            else
              k4 l4) fun k3 =>
          stroke_Format_loop2 x1 k3 (Int.toNat ((x1.strokes.length : Int) - 0) + 1) 0 ([] : List (List UInt8))
    else
      k1 l1
def stroke_Format (p_l : (List Step)) : Option ((List UInt8) × Int) :=
  if (decide ((p_l.length : Int) > 64)) = true then
  some ([], 5)
  else
  joinK (fun (l9 : (List (List UInt8))) =>
      (joinS l9 [59, 32]).bind fun r5 =>
        some (r5, 0)) fun k1 =>
    stroke_Format_loop1 p_l k1 (Int.toNat ((p_l.length : Int) - 0) + 1) 0 ([] : List (List UInt8))

def stroke_read (p_s : (List UInt8)) : Option (Stroke × Bool) :=
  (if ((p_s.length : Int) != 2) = true then some true else (byteAt p_s 0).bind fun b2 =>
  some (decide ((b2.toNat : Int) < 65))).bind fun c1 =>
  (if c1 = true then some true else (byteAt p_s 0).bind fun b3 =>
  (stroke_known (IntKind.wrap .i64 (IntKind.wrap .u8 ((b3.toNat : Int) - 65)))).bind fun r1 =>
  some (!r1)).bind fun c2 =>
  (if c2 = true then some true else (byteAt p_s 1).bind fun b4 =>
  (if ((b4.toNat : Int) != 43) = true then (byteAt p_s 1).bind fun b5 =>
  some ((b5.toNat : Int) != 45) else some false).bind fun c4 =>
  some c4).bind fun c3 =>
  if c3 = true then
  some ((Stroke.mk 0 false), false)
  else
  (byteAt p_s 0).bind fun b6 =>
    (byteAt p_s 1).bind fun b7 =>
    some ((Stroke.mk (IntKind.wrap .i64 (IntKind.wrap .u8 ((b6.toNat : Int) - 65))) ((b7.toNat : Int) == 43)), true)

def stroke_delay (p_s : (List UInt8)) : Option (Int × Bool) :=
  (if ((p_s == []) || (decide ((p_s.length : Int) > 7))) = true then some true else (byteAt p_s 0).bind fun b1 =>
  some ((b1.toNat : Int) == 48)).bind fun c1 =>
  (if c1 = true then some true else (trimS p_s [48, 49, 50, 51, 52, 53, 54, 55, 56, 57]).bind fun r1 =>
  some (!(r1 == []))).bind fun c2 =>
  if c2 = true then
  some (0, false)
  else
  (strconv_Atoi p_s).bind fun r2 =>
    some (r2.1, true)

def stroke_step_loop1 (p_s : (List UInt8)) (r1 : ((List (List UInt8)))) : Nat → Int → Int → Int → (List Stroke) → Option (Step × Int)
  | 0, _, _, _, _ => none
  | m1 + 1, i1, i2, i3, l2 => if (decide (i2 < (r1.length : Int))) = true then
      (at? r1 i2).bind fun x1 =>
        joinK (fun (i4 : Int) (l4 : (List Stroke)) =>
          stroke_step_loop1 p_s r1 m1 (IntKind.wrap .i64 (i1 + (IntKind.wrap .i64 ((x1.length : Int) + (([32] : List UInt8).length : Int))))) (IntKind.wrap .i64 (i2 + 1)) i4 l4) fun k1 =>
        (stroke_read x1).bind fun r2 =>
        if (r2.2 && (i3 == 0)) = true then
        (appO 16 l2 ([r2.1] : List Stroke)).bind fun _ =>
          k1 i3 (l2 ++ ([r2.1] : List Stroke))
      else
        (stroke_delay x1).bind fun r3 =>
          if (((!r3.2) || (i1 == 0)) || (decide ((IntKind.wrap .i64 (i1 + (x1.length : Int))) < (p_s.length : Int)))) = true then
          some ((Step.mk [] 0), 4)
        else
          k1 r3.1 l2
    else
      (stroke_CheckStep (Step.mk l2 i3)).bind fun r4 =>
        some ((Step.mk l2 i3), r4)
def stroke_step (p_s : (List UInt8)) : Option (Step × Int) :=
  (splitS p_s [32]).bind fun r1 =>
  stroke_step_loop1 p_s r1 (Int.toNat ((r1.length : Int) - 0) + 1) 0 0 0 ([] : List Stroke)

def stroke_Parse_loop1 (r1 : ((List (List UInt8)))) : Nat → Int → Int → (List Step) → Option ((List Step) × Int × Int)
  | 0, _, _, _ => none
  | m1 + 1, i1, i2, l2 => if (decide (i2 < (r1.length : Int))) = true then
      (at? r1 i2).bind fun x1 =>
        if ((l2.length : Int) == 64) = true then
        some ([], i1, 5)
      else
        (stroke_step x1).bind fun r2 =>
          if (r2.2 != 0) = true then
          some ([], i1, r2.2)
        else
          (appO 32 l2 ([r2.1] : List Step)).bind fun _ =>
            stroke_Parse_loop1 r1 m1 (IntKind.wrap .i64 (i1 + (IntKind.wrap .i64 ((x1.length : Int) + (([59, 32] : List UInt8).length : Int))))) (IntKind.wrap .i64 (i2 + 1)) (l2 ++ ([r2.1] : List Step))
    else
      some (l2, 0, 0)
def stroke_Parse (p_s : (List UInt8)) : Option ((List Step) × Int × Int) :=
  if (decide ((p_s.length : Int) > 4096)) = true then
  some ([], 0, 17)
  else
  if (p_s == []) = true then
    some ([], 0, 0)
  else
    (splitS p_s [59, 32]).bind fun r1 =>
      stroke_Parse_loop1 r1 (Int.toNat ((r1.length : Int) - 0) + 1) 0 0 ([] : List Step)

def stroke_given (p_x : Step) (p_ends : (List Bool)) : Option Int :=
  (stroke_CheckStep p_x).bind fun r1 =>
  if (r1 != 0) = true then
  some r1
  else
  if (decide ((p_ends.length : Int) > 6)) = true then
    some 5
  else
    some 0

def stroke_fits_loop1 (p_x : Step) (p_ends : (List Bool)) (k1 : (Option Bool)) : Nat → Int → Option Bool
  | 0, _ => none
  | m1 + 1, i1 => if (decide (i1 < (p_x.strokes.length : Int))) = true then
      (at? p_x.strokes i1).bind fun x1 =>
        (if (decide (x1.actuator ≥ (p_ends.length : Int))) = true then some true else (at? p_ends x1.actuator).bind fun x2 =>
        some (x2 == x1.out)).bind fun c1 =>
        if c1 = true then
        some (!(decide (i1 ≥ 0)))
      else
        stroke_fits_loop1 p_x p_ends k1 m1 (IntKind.wrap .i64 (i1 + 1))
    else
      k1
def stroke_fits (p_x : Step) (p_ends : (List Bool)) : Option Bool :=
  joinK (some (!(decide (((-1) : Int) ≥ 0)))) fun k1 =>
  stroke_fits_loop1 p_x p_ends k1 (Int.toNat ((p_x.strokes.length : Int) - 0) + 1) 0

def stroke_Apply_loop1 (p_x : Step) (k1 : ((List Bool) → Option ((List Bool) × Int))) : Nat → Int → (List Bool) → Option ((List Bool) × Int)
  | 0, _, _ => none
  | m1 + 1, i1, l2 => if (decide (i1 < (p_x.strokes.length : Int))) = true then
      (at? p_x.strokes i1).bind fun x1 =>
        (at? l2 x1.actuator).bind fun x2 =>
        stroke_Apply_loop1 p_x k1 m1 (IntKind.wrap .i64 (i1 + 1)) (List.set l2 (Int.toNat x1.actuator) x1.out)
    else
      k1 l2
def stroke_Apply (p_x : Step) (p_ends : (List Bool)) : Option ((List Bool) × Int) :=
  (stroke_given p_x p_ends).bind fun r1 =>
  if (r1 != 0) = true then
  some ([], r1)
  else
  (stroke_fits p_x p_ends).bind fun r2 =>
    if (!r2) = true then
    some ([], 14)
  else
    (appO 1 ([] : List Bool) p_ends).bind fun _ =>
      joinK (fun (l3 : (List Bool)) =>
        some (l3, 0)) fun k1 =>
      stroke_Apply_loop1 p_x k1 (Int.toNat ((p_x.strokes.length : Int) - 0) + 1) 0 p_ends

def slices_Equal_boolbool_loop1 (p_s1 : (List Bool)) (p_s2 : (List Bool)) (k1 : (Option Bool)) : Nat → Int → Option Bool
  | 0, _ => none
  | m1 + 1, i1 => if (decide (i1 < (p_s1.length : Int))) = true then
      (at? p_s1 i1).bind fun x1 =>
        (at? p_s2 i1).bind fun x2 =>
        if (!(x1 == x2)) = true then
        some false
      else
        slices_Equal_boolbool_loop1 p_s1 p_s2 k1 m1 (IntKind.wrap .i64 (i1 + 1))
    else
      k1
def slices_Equal_boolbool (p_s1 : (List Bool)) (p_s2 : (List Bool)) : Option Bool :=
  if ((p_s1.length : Int) != (p_s2.length : Int)) = true then
  some false
  else
  joinK (some true) fun k1 =>
    slices_Equal_boolbool_loop1 p_s1 p_s2 k1 (Int.toNat ((p_s1.length : Int) - 0) + 1) 0

def law13_awake_loop1 (k1 : (Option Bool)) : Nat → Int → Option Bool
  | 0, _ => none
  | m1 + 1, i1 => if (decide (i1 < (([(Case.mk [65, 43, 59, 32, 66, 43, 32, 65, 43] 4 9), (Case.mk [65, 43, 32, 65, 45] 0 7), (Case.mk [65, 43, 59, 66, 43] 0 4), (Case.mk [65, 43, 59, 32] 4 4), (Case.mk [65, 43, 32, 48] 0 4), (Case.mk [71, 43] 0 4)] : List Case).length : Int))) = true then
      (at? ([(Case.mk [65, 43, 59, 32, 66, 43, 32, 65, 43] 4 9), (Case.mk [65, 43, 32, 65, 45] 0 7), (Case.mk [65, 43, 59, 66, 43] 0 4), (Case.mk [65, 43, 59, 32] 4 4), (Case.mk [65, 43, 32, 48] 0 4), (Case.mk [71, 43] 0 4)] : List Case) i1).bind fun x1 =>
        (stroke_Parse x1.s).bind fun r5 =>
        if ((r5.2.1 != x1.at_) || (r5.2.2 != x1.e)) = true then
        some false
      else
        law13_awake_loop1 k1 m1 (IntKind.wrap .i64 (i1 + 1))
    else
      k1
def law13_awake  : Option Bool :=
  (stroke_Format ([(Step.mk ([(Stroke.mk 0 true), (Stroke.mk 1 false)] : List Stroke) 200)] : List Step)).bind fun r1 =>
  (stroke_Apply (Step.mk ([(Stroke.mk 0 true), (Stroke.mk 1 false)] : List Stroke) 200) ([false, true] : List Bool)).bind fun r2 =>
  (stroke_Parse [65, 43, 59, 32, 66, 43, 32, 67, 43, 59, 32, 65, 45]).bind fun r3 =>
  (if (((IntKind.wrap .i64 ((IntKind.wrap .i64 (r1.2 + r2.2)) + r3.2.2)) != 0) || (!(r1.1 == [65, 43, 32, 66, 45, 32, 50, 48, 48]))) = true then some true else (slices_Equal_boolbool r2.1 ([true, false] : List Bool)).bind fun r4 =>
  some (!r4)).bind fun c1 =>
  if (c1 || ((r3.1.length : Int) != 3)) = true then
  some false
  else
  joinK (some true) fun k1 =>
    law13_awake_loop1 k1 (Int.toNat ((([(Case.mk [65, 43, 59, 32, 66, 43, 32, 65, 43] 4 9), (Case.mk [65, 43, 32, 65, 45] 0 7), (Case.mk [65, 43, 59, 66, 43] 0 4), (Case.mk [65, 43, 59, 32] 4 4), (Case.mk [65, 43, 32, 48] 0 4), (Case.mk [71, 43] 0 4)] : List Case).length : Int) - 0) + 1) 0

def ref13_Actuator (p_n : Int) : Option Bool :=
  some ((decide (p_n ≥ 0)) && (decide (p_n < 6)))

def ref03_Time (p_n : Int) : Option Bool :=
  some ((decide (p_n ≥ 0)) && (decide (p_n ≤ 1000000)))

def ref13_CheckStep_loop1 (p_x : Step) (k1 : (Option Int)) : Nat → Int → Option Int
  | 0, _ => none
  | m1 + 1, i1 => if (decide (i1 < (p_x.strokes.length : Int))) = true then
      (at? p_x.strokes i1).bind fun x1 =>
        (ref13_Actuator x1.actuator).bind fun r1 =>
        if (!r1) = true then
        some 2
      else
        (if (decide (i1 > 0)) = true then (at? p_x.strokes i1).bind fun x2 =>
          (at? p_x.strokes (IntKind.wrap .i64 (i1 - 1))).bind fun x3 =>
          some (x2.actuator == x3.actuator) else some false).bind fun c1 =>
          if c1 = true then
          some 7
        else
          (if (decide (i1 > 0)) = true then (at? p_x.strokes i1).bind fun x4 =>
            (at? p_x.strokes (IntKind.wrap .i64 (i1 - 1))).bind fun x5 =>
            some (decide (x4.actuator < x5.actuator)) else some false).bind fun c2 =>
            if c2 = true then
            some 9
          else
            ref13_CheckStep_loop1 p_x k1 m1 (IntKind.wrap .i64 (i1 + 1))
    else
      k1
def ref13_CheckStep (p_x : Step) : Option Int :=
  if ((p_x.strokes.length : Int) == 0) = true then
  some 13
  else
  if (decide ((p_x.strokes.length : Int) > 6)) = true then
    some 5
  else
    joinK ((ref03_Time p_x.wait).bind fun r2 =>
      if (!r2) = true then
      some 2
    else
      some 0) fun k1 =>
      ref13_CheckStep_loop1 p_x k1 (Int.toNat ((p_x.strokes.length : Int) - 0) + 1) 0

def ref13_steps_loop1 (p_l : (List Step)) (k1 : (Option Int)) : Nat → Int → Option Int
  | 0, _ => none
  | m1 + 1, i1 => if (decide (i1 < (p_l.length : Int))) = true then
      (at? p_l i1).bind fun x1 =>
        (ref13_CheckStep x1).bind fun r1 =>
        if (r1 != 0) = true then
        some r1
      else
        ref13_steps_loop1 p_l k1 m1 (IntKind.wrap .i64 (i1 + 1))
    else
      k1
def ref13_steps (p_l : (List Step)) : Option Int :=
  if (decide ((p_l.length : Int) > 64)) = true then
  some 5
  else
  joinK (some 0) fun k1 =>
    ref13_steps_loop1 p_l k1 (Int.toNat ((p_l.length : Int) - 0) + 1) 0

def ref13_Written (p_x : Stroke) : Option (List UInt8) :=
  (cut [65, 66, 67, 68, 69, 70] p_x.actuator (IntKind.wrap .i64 (p_x.actuator + 1))).bind fun s1 =>
  if p_x.out = true then
  (catO s1 [43]).bind fun s2 =>
    some s2
  else
  (catO s1 [45]).bind fun s3 =>
    some s3

def ref03_Digits_loop1 (k1 : ((List UInt8) → Option (List UInt8))) : Nat → (List UInt8) → Int → Option (List UInt8)
  | 0, _, _ => none
  | m1 + 1, s1, i1 => if ((decide (i1 > 0)) || (s1 == [])) = true then
      (cut [48, 49, 50, 51, 52, 53, 54, 55, 56, 57] (Int.tmod i1 10) (IntKind.wrap .i64 ((Int.tmod i1 10) + 1))).bind fun s2 =>
        (catO s2 s1).bind fun s3 =>
        ref03_Digits_loop1 k1 m1 s3 (IntKind.wrap .i64 (Int.tdiv i1 10))
    else
      k1 s1
def ref03_Digits (p_n : Int) : Option (List UInt8) :=
  joinK (fun (s4 : (List UInt8)) =>
    some s4) fun k1 =>
  ref03_Digits_loop1 k1 (p_n.toNat + 2) [] p_n

def ref13_Line_loop1 (p_x : Step) (k1 : ((List UInt8) → Option (List UInt8))) : Nat → (List UInt8) → Int → Option (List UInt8)
  | 0, _, _ => none
  | m1 + 1, s1, i1 => if (decide (i1 < (p_x.strokes.length : Int))) = true then
      joinK (fun (s3 : (List UInt8)) =>
          (at? p_x.strokes i1).bind fun x1 =>
            (ref13_Written x1).bind fun r1 =>
            (catO s3 r1).bind fun s4 =>
            ref13_Line_loop1 p_x k1 m1 s4 (IntKind.wrap .i64 (i1 + 1))) fun k2 =>
        if (decide (i1 > 0)) = true then
        (catO s1 [32]).bind fun s2 =>
          k2 s2
      else
        k2 s1
    else
      k1 s1
def ref13_Line (p_x : Step) : Option (List UInt8) :=
  joinK (fun (s5 : (List UInt8)) =>
    joinK (fun (s8 : (List UInt8)) =>
        some s8) fun k3 =>
      if (decide (p_x.wait > 0)) = true then
      (ref03_Digits p_x.wait).bind fun r2 =>
        (catO [32] r2).bind fun s6 =>
        (catO s5 s6).bind fun s7 =>
        k3 s7
    else
      k3 s5) fun k1 =>
  ref13_Line_loop1 p_x k1 (Int.toNat ((p_x.strokes.length : Int) - 0) + 1) [] 0

def ref13_Lines_loop1 (p_l : (List Step)) (k1 : ((List UInt8) → Option (List UInt8))) : Nat → (List UInt8) → Int → Option (List UInt8)
  | 0, _, _ => none
  | m1 + 1, s1, i1 => if (decide (i1 < (p_l.length : Int))) = true then
      joinK (fun (s3 : (List UInt8)) =>
          (at? p_l i1).bind fun x1 =>
            (ref13_Line x1).bind fun r1 =>
            (catO s3 r1).bind fun s4 =>
            ref13_Lines_loop1 p_l k1 m1 s4 (IntKind.wrap .i64 (i1 + 1))) fun k2 =>
        if (decide (i1 > 0)) = true then
        (catO s1 [59, 32]).bind fun s2 =>
          k2 s2
      else
        k2 s1
    else
      k1 s1
def ref13_Lines (p_l : (List Step)) : Option (List UInt8) :=
  joinK (fun (s5 : (List UInt8)) =>
    some s5) fun k1 =>
  ref13_Lines_loop1 p_l k1 (Int.toNat ((p_l.length : Int) - 0) + 1) [] 0

def ref13_Format (p_l : (List Step)) : Option ((List UInt8) × Int) :=
  (ref13_steps p_l).bind fun r1 =>
  if (r1 != 0) = true then
  some ([], r1)
  else
  (ref13_Lines p_l).bind fun r2 =>
    some (r2, 0)

def law13_StrokeFormats (p_l : (List Step)) : Option Bool :=
  (if (decide ((p_l.length : Int) > 128)) = true then some true else (slices_ContainsFunc_api_Stepapi_Step_law13_StrokeFormats_1 p_l).bind fun r1 =>
  some r1).bind fun c1 =>
  if c1 = true then
  (law13_awake).bind fun r2 =>
    some r2
  else
  (stroke_Format p_l).bind fun r3 =>
    (ref13_Format p_l).bind fun r4 =>
    (if ((r3.1 == r4.1) && (r3.2 == r4.2)) = true then (law13_awake).bind fun r5 =>
    some r5 else some false).bind fun c2 =>
    some c2

def ref13_Cut_loop1 (p_s : (List UInt8)) (p_by : (List UInt8)) (k1 : (Int → (List (List UInt8)) → Option (List (List UInt8)))) : Nat → Int → Int → (List (List UInt8)) → Option (List (List UInt8))
  | 0, _, _, _ => none
  | m1 + 1, i1, i2, l1 => if (decide ((IntKind.wrap .i64 (i2 + (p_by.length : Int))) ≤ (p_s.length : Int))) = true then
      joinK (fun (i3 : Int) (l3 : (List (List UInt8))) =>
          ref13_Cut_loop1 p_s p_by k1 m1 i3 (IntKind.wrap .i64 (i2 + 1)) l3) fun k2 =>
        (if (decide (i2 ≥ i1)) = true then (cut p_s i2 (IntKind.wrap .i64 (i2 + (p_by.length : Int)))).bind fun s1 =>
        some (s1 == p_by) else some false).bind fun c1 =>
        if c1 = true then
        (cut p_s i1 i2).bind fun s2 =>
          (appO 16 l1 ([s2] : List (List UInt8))).bind fun _ =>
          k2 (IntKind.wrap .i64 (i2 + (p_by.length : Int))) (l1 ++ ([s2] : List (List UInt8)))
      else
        k2 i1 l1
    else
      k1 i1 l1
def ref13_Cut (p_s : (List UInt8)) (p_by : (List UInt8)) : Option (List (List UInt8)) :=
  joinK (fun (i4 : Int) (l4 : (List (List UInt8))) =>
    (cut p_s i4 (p_s.length : Int)).bind fun s3 =>
      (appO 16 l4 ([s3] : List (List UInt8))).bind fun _ =>
      some (l4 ++ ([s3] : List (List UInt8)))) fun k1 =>
  ref13_Cut_loop1 p_s p_by k1 (p_s.length + 2) 0 0 ([] : List (List UInt8))

def ref13_read_loop2 (p_s : (List UInt8)) (i1 : Int) (k2 : (Option (Stroke × Bool))) : Nat → Int → Option (Stroke × Bool)
  | 0, _ => none
  | m2 + 1, i2 => if (decide (i2 < (([false, true] : List Bool).length : Int))) = true then
      (at? ([false, true] : List Bool) i2).bind fun x1 =>
        (ref13_Written (Stroke.mk i1 x1)).bind fun r1 =>
        if (r1 == p_s) = true then
        some ((Stroke.mk i1 x1), true)
      else
        ref13_read_loop2 p_s i1 k2 m2 (IntKind.wrap .i64 (i2 + 1))
    else
      k2
def ref13_read_loop1 (k1 : (Option (Stroke × Bool))) (p_s : (List UInt8)) : Nat → Int → Option (Stroke × Bool)
  | 0, _ => none
  | m1 + 1, i1 => if (decide (i1 < 6)) = true then
      joinK (ref13_read_loop1 k1 p_s m1 (IntKind.wrap .i64 (i1 + 1))) fun k2 =>
        ref13_read_loop2 p_s i1 k2 (Int.toNat ((([false, true] : List Bool).length : Int) - 0) + 1) 0
    else
      k1
def ref13_read (p_s : (List UInt8)) : Option (Stroke × Bool) :=
  joinK (some ((Stroke.mk 0 false), false)) fun k1 =>
  ref13_read_loop1 k1 p_s (Int.toNat (6 - 0) + 1) 0

def ref03_Number_loop1 (p_s : (List UInt8)) (k1 : (Int → Option (Int × Bool))) : Nat → Int → Int → Option (Int × Bool)
  | 0, _, _ => none
  | m1 + 1, i1, i2 => if (decide (i2 < (p_s.length : Int))) = true then
      (byteAt p_s i2).bind fun b2 =>
        (if (decide ((b2.toNat : Int) < 48)) = true then some true else (byteAt p_s i2).bind fun b3 =>
        some (decide ((b3.toNat : Int) > 57))).bind fun c3 =>
        if c3 = true then
        some (0, false)
      else
        (byteAt p_s i2).bind fun b4 =>
          ref03_Number_loop1 p_s k1 m1 (IntKind.wrap .i64 ((IntKind.wrap .i64 (10 * i1)) + (IntKind.wrap .i64 (IntKind.wrap .u8 ((b4.toNat : Int) - 48))))) (IntKind.wrap .i64 (i2 + 1))
    else
      k1 i1
def ref03_Number (p_s : (List UInt8)) : Option (Int × Bool) :=
  (if ((p_s == []) || (decide ((p_s.length : Int) > 7))) = true then some true else (if (decide ((p_s.length : Int) > 1)) = true then (byteAt p_s 0).bind fun b1 =>
  some ((b1.toNat : Int) == 48) else some false).bind fun c2 =>
  some c2).bind fun c1 =>
  if c1 = true then
  some (0, false)
  else
  joinK (fun (i3 : Int) =>
      some (i3, true)) fun k1 =>
    ref03_Number_loop1 p_s k1 (Int.toNat ((p_s.length : Int) - 0) + 1) 0 0

def ref13_Step_loop1 (r1 : ((List (List UInt8)))) (k1 : (Int → (List Stroke) → Option (Step × Int))) : Nat → Int → Int → (List Stroke) → Option (Step × Int)
  | 0, _, _, _ => none
  | m1 + 1, i1, i2, l1 => if (decide (i1 < (r1.length : Int))) = true then
      joinK (fun (i3 : Int) (l3 : (List Stroke)) =>
          ref13_Step_loop1 r1 k1 m1 (IntKind.wrap .i64 (i1 + 1)) i3 l3) fun k2 =>
        (at? r1 i1).bind fun x1 =>
        (ref13_read x1).bind fun r2 =>
        if (r2.2 && (i2 == 0)) = true then
        (appO 16 l1 ([r2.1] : List Stroke)).bind fun _ =>
          k2 i2 (l1 ++ ([r2.1] : List Stroke))
      else
        (at? r1 i1).bind fun x2 =>
          (ref03_Number x2).bind fun r3 =>
          if ((((!r3.2) || (r3.1 == 0)) || (i1 == 0)) || (decide (i1 < (IntKind.wrap .i64 ((r1.length : Int) - 1))))) = true then
          some ((Step.mk [] 0), 4)
        else
          k2 r3.1 l1
    else
      k1 i2 l1
def ref13_Step (p_s : (List UInt8)) : Option (Step × Int) :=
  (ref13_Cut p_s [32]).bind fun r1 =>
  joinK (fun (i4 : Int) (l4 : (List Stroke)) =>
    (ref13_CheckStep (Step.mk l4 i4)).bind fun r4 =>
      if (r4 != 0) = true then
      some ((Step.mk [] 0), r4)
    else
      some ((Step.mk l4 i4), 0)) fun k1 =>
  ref13_Step_loop1 r1 k1 (Int.toNat ((r1.length : Int) - 0) + 1) 0 0 ([] : List Stroke)

def ref13_Parse_loop1 (r1 : ((List (List UInt8)))) (k1 : ((List Step) → Option ((List Step) × Int × Int))) : Nat → Int → Int → (List Step) → Option ((List Step) × Int × Int)
  | 0, _, _, _ => none
  | m1 + 1, i1, i2, l1 => if (decide (i2 < (r1.length : Int))) = true then
      if (i2 == 64) = true then
        some ([], i1, 5)
      else
        (at? r1 i2).bind fun x1 =>
          (ref13_Step x1).bind fun r2 =>
          if (r2.2 != 0) = true then
          some ([], i1, r2.2)
        else
          (appO 32 l1 ([r2.1] : List Step)).bind fun _ =>
            (at? r1 i2).bind fun x2 =>
            ref13_Parse_loop1 r1 k1 m1 (IntKind.wrap .i64 (i1 + (IntKind.wrap .i64 ((x2.length : Int) + 2)))) (IntKind.wrap .i64 (i2 + 1)) (l1 ++ ([r2.1] : List Step))
    else
      k1 l1
def ref13_Parse (p_s : (List UInt8)) : Option ((List Step) × Int × Int) :=
  if (decide ((p_s.length : Int) > 4096)) = true then
  some ([], 0, 17)
  else
  if (p_s == []) = true then
    some ([], 0, 0)
  else
    (ref13_Cut p_s [59, 32]).bind fun r1 =>
      joinK (fun (l3 : (List Step)) =>
        some (l3, 0, 0)) fun k1 =>
      ref13_Parse_loop1 r1 k1 (Int.toNat ((r1.length : Int) - 0) + 1) 0 0 ([] : List Step)

def ref13_SameStrokes_loop1 (p_a : (List Stroke)) (p_b : (List Stroke)) (k1 : (Option Bool)) : Nat → Int → Option Bool
  | 0, _ => none
  | m1 + 1, i1 => if (decide (i1 < (p_a.length : Int))) = true then
      (at? p_a i1).bind fun x1 =>
        (at? p_b i1).bind fun x2 =>
        if (!(x1 == x2)) = true then
        some false
      else
        ref13_SameStrokes_loop1 p_a p_b k1 m1 (IntKind.wrap .i64 (i1 + 1))
    else
      k1
def ref13_SameStrokes (p_a : (List Stroke)) (p_b : (List Stroke)) : Option Bool :=
  if ((p_a.length : Int) != (p_b.length : Int)) = true then
  some false
  else
  joinK (some true) fun k1 =>
    ref13_SameStrokes_loop1 p_a p_b k1 (Int.toNat ((p_a.length : Int) - 0) + 1) 0

def ref13_Same (p_a : Step) (p_b : Step) : Option Bool :=
  (if (p_a.wait == p_b.wait) = true then (ref13_SameStrokes p_a.strokes p_b.strokes).bind fun r1 =>
  some r1 else some false).bind fun c1 =>
  some c1

def ref13_SameSteps_loop1 (p_a : (List Step)) (p_b : (List Step)) (k1 : (Option Bool)) : Nat → Int → Option Bool
  | 0, _ => none
  | m1 + 1, i1 => if (decide (i1 < (p_a.length : Int))) = true then
      (at? p_a i1).bind fun x1 =>
        (at? p_b i1).bind fun x2 =>
        (ref13_Same x1 x2).bind fun r1 =>
        if (!r1) = true then
        some false
      else
        ref13_SameSteps_loop1 p_a p_b k1 m1 (IntKind.wrap .i64 (i1 + 1))
    else
      k1
def ref13_SameSteps (p_a : (List Step)) (p_b : (List Step)) : Option Bool :=
  if ((p_a.length : Int) != (p_b.length : Int)) = true then
  some false
  else
  joinK (some true) fun k1 =>
    ref13_SameSteps_loop1 p_a p_b k1 (Int.toNat ((p_a.length : Int) - 0) + 1) 0

def law13_StrokeParses (p_s : (List UInt8)) : Option Bool :=
  if (((decide ((p_s.length : Int) > 800)) && (decide ((p_s.length : Int) ≤ 4096))) || (decide ((p_s.length : Int) > 8192))) = true then
  (law13_awake).bind fun r1 =>
    some r1
  else
  (stroke_Parse p_s).bind fun r2 =>
    (ref13_Parse p_s).bind fun r3 =>
    (ref13_SameSteps r2.1 r3.1).bind fun r4 =>
    (if ((r4 && (r2.2.1 == r3.2.1)) && (r2.2.2 == r3.2.2)) = true then (law13_awake).bind fun r5 =>
    some r5 else some false).bind fun c1 =>
    some c1

def stroke_Has_loop1 (p_x : Step) (p_actuator : Int) (k1 : (Option (Int × Int))) : Nat → Int → Option (Int × Int)
  | 0, _ => none
  | m1 + 1, i1 => if (decide (i1 < (p_x.strokes.length : Int))) = true then
      (at? p_x.strokes i1).bind fun x1 =>
        if (x1.actuator != p_actuator) = true then
        stroke_Has_loop1 p_x p_actuator k1 m1 (IntKind.wrap .i64 (i1 + 1))
      else
        if x1.out = true then
          some (1, 0)
        else
          some ((-1), 0)
    else
      k1
def stroke_Has (p_x : Step) (p_actuator : Int) : Option (Int × Int) :=
  (stroke_CheckStep p_x).bind fun r1 =>
  if (r1 != 0) = true then
  some (0, r1)
  else
  (stroke_known p_actuator).bind fun r2 =>
    if (!r2) = true then
    some (0, 2)
  else
    joinK (some (0, 0)) fun k1 =>
      stroke_Has_loop1 p_x p_actuator k1 (Int.toNat ((p_x.strokes.length : Int) - 0) + 1) 0

def ref13_Way_loop1 (p_x : Step) (p_actuator : Int) (k1 : (Option Int)) : Nat → Int → Option Int
  | 0, _ => none
  | m1 + 1, i1 => if (decide (i1 < (p_x.strokes.length : Int))) = true then
      (at? p_x.strokes i1).bind fun x1 =>
        if (x1.actuator == p_actuator) = true then
        (at? p_x.strokes i1).bind fun x2 =>
          if x2.out = true then
          some 1
        else
          some (-1)
      else
        ref13_Way_loop1 p_x p_actuator k1 m1 (IntKind.wrap .i64 (i1 + 1))
    else
      k1
def ref13_Way (p_x : Step) (p_actuator : Int) : Option Int :=
  joinK (some 0) fun k1 =>
  ref13_Way_loop1 p_x p_actuator k1 (Int.toNat ((p_x.strokes.length : Int) - 0) + 1) 0

def ref13_Has (p_x : Step) (p_actuator : Int) : Option (Int × Int) :=
  (ref13_CheckStep p_x).bind fun r1 =>
  if (r1 != 0) = true then
  some (0, r1)
  else
  (ref13_Actuator p_actuator).bind fun r2 =>
    if (!r2) = true then
    some (0, 2)
  else
    (ref13_Way p_x p_actuator).bind fun r3 =>
      some (r3, 0)

def slices_Equal_api_Strokeapi_Stroke_loop1 (p_s1 : (List Stroke)) (p_s2 : (List Stroke)) (k1 : (Option Bool)) : Nat → Int → Option Bool
  | 0, _ => none
  | m1 + 1, i1 => if (decide (i1 < (p_s1.length : Int))) = true then
      (at? p_s1 i1).bind fun x1 =>
        (at? p_s2 i1).bind fun x2 =>
        if (!(x1 == x2)) = true then
        some false
      else
        slices_Equal_api_Strokeapi_Stroke_loop1 p_s1 p_s2 k1 m1 (IntKind.wrap .i64 (i1 + 1))
    else
      k1
def slices_Equal_api_Strokeapi_Stroke (p_s1 : (List Stroke)) (p_s2 : (List Stroke)) : Option Bool :=
  if ((p_s1.length : Int) != (p_s2.length : Int)) = true then
  some false
  else
  joinK (some true) fun k1 =>
    slices_Equal_api_Strokeapi_Stroke_loop1 p_s1 p_s2 k1 (Int.toNat ((p_s1.length : Int) - 0) + 1) 0

def stroke_Same (p_a : Step) (p_b : Step) : Option Bool :=
  (if (p_a.wait == p_b.wait) = true then (slices_Equal_api_Strokeapi_Stroke p_a.strokes p_b.strokes).bind fun r1 =>
  some r1 else some false).bind fun c1 =>
  some c1

def law13_StrokeSteps (p_x : Step) (p_y : Step) (p_actuator : Int) : Option Bool :=
  (ref13_Few p_x []).bind fun r1 =>
  (if (!r1) = true then some true else (ref13_Few p_y []).bind fun r2 =>
  some (!r2)).bind fun c1 =>
  if c1 = true then
  (law13_awake).bind fun r3 =>
    some r3
  else
  (stroke_Has p_x p_actuator).bind fun r4 =>
    (ref13_Has p_x p_actuator).bind fun r5 =>
    (stroke_CheckStep p_x).bind fun r6 =>
    (ref13_CheckStep p_x).bind fun r7 =>
    (if (((r6 == r7) && (r4.1 == r5.1)) && (r4.2 == r5.2)) = true then (stroke_Same p_x p_y).bind fun r8 =>
    (ref13_Same p_x p_y).bind fun r9 =>
    some (r8 == r9) else some false).bind fun c2 =>
    (if c2 = true then (stroke_Same p_x p_x).bind fun r10 =>
    some r10 else some false).bind fun c3 =>
    (if c3 = true then (law13_awake).bind fun r11 =>
    some r11 else some false).bind fun c4 =>
    some c4

end Go.Proofs.YtbiifgojhljkjaaGreatDoor.W
