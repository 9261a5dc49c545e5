import Derived.Test.YtkgijoddkibapaaGreatDoorTypes
import Derived.Test.YtkgijoddkibapaaGreatDoorExt
set_option linter.unusedVariables false
set_option maxRecDepth 100000
set_option maxHeartbeats 4000000
namespace Go.Proofs.YtkgijoddkibapaaGreatDoor.W
open Go Go.RowKit
def slices_Index_stringstring_loop1 (p_s : (List (List UInt8))) (p_v : (List UInt8)) (k1 : (Option Int)) : Nat → Int → Option Int
 | 0, _ => none
 | m1 + 1, i1 => if (decide (i1 < (p_s.length : Int))) = true then
  (at? p_s i1).bind fun x1 =>
   if (p_v == x1) = true then
   some i1
  else
   slices_Index_stringstring_loop1 p_s p_v k1 m1 (IntKind.wrap .i64 (i1 + 1))
  else
   k1
def slices_Index_stringstring (p_s : (List (List UInt8))) (p_v : (List UInt8)) : Option Int :=
 joinK (some (-1)) fun k1 =>
 slices_Index_stringstring_loop1 p_s p_v k1 (Int.toNat ((p_s.length : Int) - 0) + 1) 0

def slices_Contains_stringstring (p_s : (List (List UInt8))) (p_v : (List UInt8)) : Option Bool :=
 (slices_Index_stringstring p_s p_v).bind fun r1 =>
 some (decide (r1 ≥ 0))

def program_choice_taken (p_m : MChoice) (p_on : (List (List UInt8))) : Option Motion :=
 (slices_Contains_stringstring p_on p_m.name).bind fun r1 =>
 if r1 = true then
 some p_m.then_
 else
 some p_m.other

def steps : Nat → Motion → List (List UInt8) → Option Motion
 | 0 => fun _ _ => none
 | n + 1 => fun m on => if m.isChoice = true then (program_choice_taken (MChoice.mk m.nm m.thn m.oth) on).bind fun r => steps n r on else some m

def program_single_steps_1 {σ : Type} (step : σ → Step → Option (Bool × σ)) (p_m : MSingle) (z : σ) : Option (Bool × σ) :=
 (step z p_m.step).bind fun r1 =>
 if r1.1 = true then
 some (true, r1.2)
 else
 some (false, r1.2)

def program_list_steps_1_rng2 {σ : Type} (step : (σ → Step → Option (Bool × σ))) (q1 : σ) (xx1 : Step) : Option (Bool × σ) :=
 (step q1 xx1).bind fun r2 =>
  if r2.1 = true then
  some (true, r2.2)
 else
  some (false, r2.2)
def program_list_steps_1_loop1 {σ : Type} (p_m : MList) (p_on : (List (List UInt8))) (self : ((σ → Step → Option (Bool × σ)) → Motion → (List (List UInt8)) → σ → Option (Bool × σ))) (step : (σ → Step → Option (Bool × σ))) : Nat → σ → Int → Option (Bool × σ)
 | 0, _, _ => none
 | m1 + 1, z1, i1 => if (decide (i1 < (p_m.parts.length : Int))) = true then
  (at? p_m.parts i1).bind fun x1 =>
   (steps 600 x1 p_on).bind fun r1 =>
   (self (program_list_steps_1_rng2 step) r1 p_on z1).bind fun r3 =>
   if r3.1 = true then
   program_list_steps_1_loop1 p_m p_on self step m1 r3.2 (IntKind.wrap .i64 (i1 + 1))
  else
   some (false, r3.2)
  else
   some (true, z1)
def program_list_steps_1 {σ : Type} (step : σ → Step → Option (Bool × σ)) (self : (σ → Step → Option (Bool × σ)) → Motion → (List (List UInt8)) → σ → Option (Bool × σ)) (p_m : MList) (p_on : (List (List UInt8))) (z : σ) : Option (Bool × σ) :=
 program_list_steps_1_loop1 p_m p_on self step (Int.toNat ((p_m.parts.length : Int) - 0) + 1) z 0

def program_repeat_steps_1_rng2 {σ : Type} (step : (σ → Step → Option (Bool × σ))) (q1 : σ) (xx1 : Step) : Option (Bool × σ) :=
 (step q1 xx1).bind fun r2 =>
  if r2.1 = true then
  some (true, r2.2)
 else
  some (false, r2.2)
def program_repeat_steps_1_loop1 {σ : Type} (p_m : MRepeat) (p_on : (List (List UInt8))) (self : ((σ → Step → Option (Bool × σ)) → Motion → (List (List UInt8)) → σ → Option (Bool × σ))) (step : (σ → Step → Option (Bool × σ))) : Nat → σ → Int → Option (Bool × σ)
 | 0, _, _ => none
 | m1 + 1, z1, i1 => if (decide (i1 < p_m.count)) = true then
  (steps 600 p_m.part p_on).bind fun r1 =>
   (self (program_repeat_steps_1_rng2 step) r1 p_on z1).bind fun r3 =>
   if r3.1 = true then
   program_repeat_steps_1_loop1 p_m p_on self step m1 r3.2 (IntKind.wrap .i64 (i1 + 1))
  else
   some (false, r3.2)
  else
   some (true, z1)
def program_repeat_steps_1 {σ : Type} (step : σ → Step → Option (Bool × σ)) (self : (σ → Step → Option (Bool × σ)) → Motion → (List (List UInt8)) → σ → Option (Bool × σ)) (p_m : MRepeat) (p_on : (List (List UInt8))) (z : σ) : Option (Bool × σ) :=
 program_repeat_steps_1_loop1 p_m p_on self step (Int.toNat (p_m.count - 0) + 1) z 0

def iterRun {σ : Type} : Nat → (σ → Step → Option (Bool × σ)) → Motion → List (List UInt8) → σ → Option (Bool × σ)
 | 0 => fun _ _ _ _ => none
 | n + 1 => fun step m on z => if m.isSingle = true then program_single_steps_1 step (MSingle.mk m.stp) z else if m.isList = true then program_list_steps_1 step (iterRun n) (MList.mk m.prts) on z else if m.isRepeat = true then program_repeat_steps_1 step (iterRun n) (MRepeat.mk m.cnt m.prt) on z else none

def diagram_index (p_out : Bool) : Option Int :=
 if p_out = true then
 some 1
 else
 some 0

def cells_loop2 (l1 : (List Bool)) (k3 : ((List Cell) → Option (List (List Cell)))) : Nat → Int → (List Cell) → Option (List (List Cell))
 | 0, _, _ => none
 | m2 + 1, i2, l3 => if (decide (i2 < (l1.length : Int))) = true then
  (at? l1 i2).bind fun x2 =>
   (diagram_index x2).bind fun r1 =>
   (at? diag_rest r1).bind fun x3 =>
   (diagram_index x2).bind fun r2 =>
   (at? diag_rest r2).bind fun x4 =>
   (at? l3 i2).bind fun x5 =>
   cells_loop2 l1 k3 m2 (IntKind.wrap .i64 (i2 + 1)) (List.set l3 (Int.toNat i2) (Cell.mk x3 x4))
  else
   k3 l3
def cells_loop3 (x1 : Step) (k4 : ((List Bool) → (List Cell) → Option (List (List Cell)))) : Nat → Int → (List Bool) → (List Cell) → Option (List (List Cell))
 | 0, _, _, _ => none
 | m3 + 1, i3, l5, l6 => if (decide (i3 < (x1.strokes.length : Int))) = true then
  (at? x1.strokes i3).bind fun x6 =>
   (at? l5 x6.actuator).bind fun x7 =>
   (diagram_index x6.out).bind fun r3 =>
   (at? diag_going r3).bind fun x8 =>
   (diagram_index x6.out).bind fun r4 =>
   (at? diag_rest r4).bind fun x9 =>
   (at? l6 x6.actuator).bind fun x10 =>
   cells_loop3 x1 k4 m3 (IntKind.wrap .i64 (i3 + 1)) (List.set l5 (Int.toNat x6.actuator) x6.out) (List.set l6 (Int.toNat x6.actuator) (Cell.mk x8 x9))
  else
   k4 l5 l6
def cells_loop4 (k2 : ((List Bool) → (List (List Cell)) → Option (List (List Cell)))) (l8 : (List Cell)) (l7 : (List Bool)) : Nat → Int → (List (List Cell)) → Option (List (List Cell))
 | 0, _, _ => none
 | m4 + 1, i4, q => if (decide (i4 < (q.length : Int))) = true then
  (at? q i4).bind fun l9 =>
   (at? l8 i4).bind fun x11 =>
   (appO 2 l9 ([x11] : List Cell)).bind fun _ =>
   cells_loop4 k2 l8 l7 m4 (IntKind.wrap .i64 (i4 + 1)) (List.set q (Int.toNat i4) (l9 ++ ([x11] : List Cell)))
  else
   k2 l7 q
def cells_loop1 (p_s : Sequence) (k1 : ((List (List Cell)) → Option (List (List Cell)))) : Nat → Int → (List Bool) → (List (List Cell)) → Option (List (List Cell))
 | 0, _, _, _ => none
 | m1 + 1, i1, l1, q2 => if (decide (i1 < (p_s.steps.length : Int))) = true then
  joinK (fun (l11 : (List Bool)) (q12 : (List (List Cell))) =>
   cells_loop1 p_s k1 m1 (IntKind.wrap .i64 (i1 + 1)) l11 q12) fun k2 =>
   (at? p_s.steps i1).bind fun x1 =>
   (guardO ((decide (0 ≤ p_s.actuators) && decide (p_s.actuators * 2 ≤ 140737488355328)) && decide (p_s.actuators ≤ 4611686018427387904))).bind fun _ =>
   joinK (fun (l4 : (List Cell)) =>
    joinK (fun (l7 : (List Bool)) (l8 : (List Cell)) =>
     cells_loop4 k2 l8 l7 (Int.toNat ((q2.length : Int) - 0) + 1) 0 q2) fun k4 =>
     cells_loop3 x1 k4 (Int.toNat ((x1.strokes.length : Int) - 0) + 1) 0 l1 l4) fun k3 =>
   cells_loop2 l1 k3 (Int.toNat ((l1.length : Int) - 0) + 1) 0 (List.replicate (Int.toNat p_s.actuators) (Cell.mk 0 0))
  else
   k1 q2
def cellsG (p_s : Sequence) : Option (List (List Cell)) :=
 (guardO (decide (0 ≤ p_s.actuators) && decide (p_s.actuators ≤ 1000))).bind fun _ =>
 (guardO ((decide (0 ≤ p_s.actuators) && decide (p_s.actuators * 1 ≤ 140737488355328)) && decide (p_s.actuators ≤ 4611686018427387904))).bind fun _ =>
 joinK (fun (q13 : (List (List Cell))) =>
  some q13) fun k1 =>
 cells_loop1 p_s k1 (Int.toNat ((p_s.steps.length : Int) - 0) + 1) 0 (List.replicate (Int.toNat p_s.actuators) false) (List.replicate (Int.toNat p_s.actuators) [])

def ref14_Few_loop1 (p_s : Sequence) (k1 : (Option Bool)) : Nat → Int → Option Bool
 | 0, _ => none
 | m1 + 1, i1 => if (decide (i1 < (p_s.steps.length : Int))) = true then
  (at? p_s.steps i1).bind fun x1 =>
   if (decide ((x1.strokes.length : Int) > 40)) = true then
   some false
  else
   ref14_Few_loop1 p_s k1 m1 (IntKind.wrap .i64 (i1 + 1))
  else
   k1
def ref14_Few (p_s : Sequence) : Option Bool :=
 if (decide ((p_s.steps.length : Int) > 128)) = true then
 some false
 else
 joinK (some true) fun k1 =>
  ref14_Few_loop1 p_s k1 (Int.toNat ((p_s.steps.length : Int) - 0) + 1) 0

def ref03_Time (p_n : Int) : Option Bool :=
 some ((decide (p_n ≥ 0)) && (decide (p_n ≤ 1000000)))

def ref13_Actuator (p_n : Int) : Option Bool :=
 some ((decide (p_n ≥ 0)) && (decide (p_n < 6)))

def ref13_CheckStep_loop1 (p_x : Step) (k1 : (Option Int)) : Nat → Int → Option Int
 | 0, _ => none
 | m1 + 1, i1 => if (decide (i1 < (p_x.strokes.length : Int))) = true then
  (at? p_x.strokes i1).bind fun x1 =>
   (ref13_Actuator x1.actuator).bind fun r1 =>
   if (!r1) = true then
   some 2
  else
   (if (decide (i1 > 0)) = true then (at? p_x.strokes i1).bind fun x2 =>
    (at? p_x.strokes (IntKind.wrap .i64 (i1 - 1))).bind fun x3 =>
    some (x2.actuator == x3.actuator) else some false).bind fun c1 =>
    if c1 = true then
    some 7
   else
    (if (decide (i1 > 0)) = true then (at? p_x.strokes i1).bind fun x4 =>
     (at? p_x.strokes (IntKind.wrap .i64 (i1 - 1))).bind fun x5 =>
     some (decide (x4.actuator < x5.actuator)) else some false).bind fun c2 =>
     if c2 = true then
     some 9
    else
     ref13_CheckStep_loop1 p_x k1 m1 (IntKind.wrap .i64 (i1 + 1))
  else
   k1
def ref13_CheckStep (p_x : Step) : Option Int :=
 if ((p_x.strokes.length : Int) == 0) = true then
 some 13
 else
 if (decide ((p_x.strokes.length : Int) > 6)) = true then
  some 5
 else
  joinK ((ref03_Time p_x.wait).bind fun r2 =>
   if (!r2) = true then
   some 2
  else
   some 0) fun k1 =>
   ref13_CheckStep_loop1 p_x k1 (Int.toNat ((p_x.strokes.length : Int) - 0) + 1) 0

def ref13_Suits_loop1 (p_x : Step) (p_ends : (List Bool)) (k1 : (Option Bool)) : Nat → Int → Option Bool
 | 0, _ => none
 | m1 + 1, i1 => if (decide (i1 < (p_x.strokes.length : Int))) = true then
  (at? p_x.strokes i1).bind fun x1 =>
   (if (decide (x1.actuator ≥ (p_ends.length : Int))) = true then some true else (at? p_ends x1.actuator).bind fun x2 =>
   some (x2 == x1.out)).bind fun c1 =>
   if c1 = true then
   some false
  else
   ref13_Suits_loop1 p_x p_ends k1 m1 (IntKind.wrap .i64 (i1 + 1))
  else
   k1
def ref13_Suits (p_x : Step) (p_ends : (List Bool)) : Option Bool :=
 joinK (some true) fun k1 =>
 ref13_Suits_loop1 p_x p_ends k1 (Int.toNat ((p_x.strokes.length : Int) - 0) + 1) 0

def ref13_After_loop1 (p_x : Step) (k1 : ((List Bool) → Option (List Bool))) : Nat → Int → (List Bool) → Option (List Bool)
 | 0, _, _ => none
 | m1 + 1, i1, l2 => if (decide (i1 < (p_x.strokes.length : Int))) = true then
  (at? p_x.strokes i1).bind fun x1 =>
   (at? p_x.strokes i1).bind fun x2 =>
   (at? l2 x1.actuator).bind fun x3 =>
   ref13_After_loop1 p_x k1 m1 (IntKind.wrap .i64 (i1 + 1)) (List.set l2 (Int.toNat x1.actuator) x2.out)
  else
   k1 l2
def ref13_After (p_x : Step) (p_ends : (List Bool)) : Option (List Bool) :=
 (appO 1 ([] : List Bool) p_ends).bind fun _ =>
 joinK (fun (l3 : (List Bool)) =>
  some l3) fun k1 =>
 ref13_After_loop1 p_x k1 (Int.toNat ((p_x.strokes.length : Int) - 0) + 1) 0 (([] : List Bool) ++ p_ends)

def ref14_steps_loop2 (p_s : Sequence) (x1 : Step) (k3 : (Option Int)) : Nat → Int → Option Int
 | 0, _ => none
 | m2 + 1, i2 => if (decide (i2 < (x1.strokes.length : Int))) = true then
  (at? x1.strokes i2).bind fun x2 =>
   if (decide (x2.actuator ≥ p_s.actuators)) = true then
   some 6
  else
   ref14_steps_loop2 p_s x1 k3 m2 (IntKind.wrap .i64 (i2 + 1))
  else
   k3
def ref14_steps_loop1 (p_s : Sequence) (k1 : ((List Bool) → Option Int)) : Nat → (List Bool) → Int → Option Int
 | 0, _, _ => none
 | m1 + 1, l1, i1 => if (decide (i1 < (p_s.steps.length : Int))) = true then
  joinK (fun (l2 : (List Bool)) =>
   ref14_steps_loop1 p_s k1 m1 l2 (IntKind.wrap .i64 (i1 + 1))) fun k2 =>
   (at? p_s.steps i1).bind fun x1 =>
   (ref13_CheckStep x1).bind fun r1 =>
   if (r1 != 0) = true then
   some r1
  else
   joinK ((ref13_Suits x1 l1).bind fun r2 =>
    if (!r2) = true then
    some 14
   else
    (ref13_After x1 l1).bind fun r3 =>
     k2 r3) fun k3 =>
    ref14_steps_loop2 p_s x1 k3 (Int.toNat ((x1.strokes.length : Int) - 0) + 1) 0
  else
   k1 l1
def ref14_steps_loop3 (p_s : Sequence) (l3 : (List Bool)) (k4 : (Option Int)) : Nat → Int → Option Int
 | 0, _ => none
 | m3 + 1, i3 => if (decide (i3 < p_s.actuators)) = true then
  (at? l3 i3).bind fun x3 =>
   if x3 = true then
   some 9
  else
   ref14_steps_loop3 p_s l3 k4 m3 (IntKind.wrap .i64 (i3 + 1))
  else
   k4
def ref14_steps (p_s : Sequence) : Option Int :=
 (guardO ((decide (0 ≤ p_s.actuators) && decide (p_s.actuators * 1 ≤ 140737488355328)) && decide (p_s.actuators ≤ 4611686018427387904))).bind fun _ =>
 joinK (fun (l3 : (List Bool)) =>
  joinK (some 0) fun k4 =>
   ref14_steps_loop3 p_s l3 k4 (Int.toNat (p_s.actuators - 0) + 1) 0) fun k1 =>
 ref14_steps_loop1 p_s k1 (Int.toNat ((p_s.steps.length : Int) - 0) + 1) (List.replicate (Int.toNat p_s.actuators) false) 0

def ref13_Way_loop1 (p_x : Step) (p_actuator : Int) (k1 : (Option Int)) : Nat → Int → Option Int
 | 0, _ => none
 | m1 + 1, i1 => if (decide (i1 < (p_x.strokes.length : Int))) = true then
  (at? p_x.strokes i1).bind fun x1 =>
   if (x1.actuator == p_actuator) = true then
   (at? p_x.strokes i1).bind fun x2 =>
    if x2.out = true then
    some 1
   else
    some (-1)
  else
   ref13_Way_loop1 p_x p_actuator k1 m1 (IntKind.wrap .i64 (i1 + 1))
  else
   k1
def ref13_Way (p_x : Step) (p_actuator : Int) : Option Int :=
 joinK (some 0) fun k1 =>
 ref13_Way_loop1 p_x p_actuator k1 (Int.toNat ((p_x.strokes.length : Int) - 0) + 1) 0

def ref14_moves_loop1 (p_s : Sequence) (p_actuator : Int) (k1 : (Option Bool)) : Nat → Int → Option Bool
 | 0, _ => none
 | m1 + 1, i1 => if (decide (i1 < (p_s.steps.length : Int))) = true then
  (at? p_s.steps i1).bind fun x1 =>
   (ref13_Way x1 p_actuator).bind fun r1 =>
   if (r1 != 0) = true then
   some true
  else
   ref14_moves_loop1 p_s p_actuator k1 m1 (IntKind.wrap .i64 (i1 + 1))
  else
   k1
def ref14_moves (p_s : Sequence) (p_actuator : Int) : Option Bool :=
 joinK (some false) fun k1 =>
 ref14_moves_loop1 p_s p_actuator k1 (Int.toNat ((p_s.steps.length : Int) - 0) + 1) 0

def ref14_Check_loop1 (p_s : Sequence) (k1 : (Option Int)) : Nat → Int → Option Int
 | 0, _ => none
 | m1 + 1, i1 => if (decide (i1 < p_s.actuators)) = true then
  (ref14_moves p_s i1).bind fun r2 =>
   if (!r2) = true then
   some 13
  else
   ref14_Check_loop1 p_s k1 m1 (IntKind.wrap .i64 (i1 + 1))
  else
   k1
def ref14_Check (p_s : Sequence) : Option Int :=
 if ((decide (p_s.actuators < 1)) || (decide (p_s.actuators > 6))) = true then
 some 2
 else
 if ((p_s.steps.length : Int) == 0) = true then
  some 13
 else
  if (decide ((p_s.steps.length : Int) > 64)) = true then
   some 5
  else
   (ref14_steps p_s).bind fun r1 =>
    if (r1 != 0) = true then
    some r1
   else
    joinK (some 0) fun k1 =>
     ref14_Check_loop1 p_s k1 (Int.toNat (p_s.actuators - 0) + 1) 0

def ref17_Few (p_s : Sequence) (p_p : Plant) : Option Bool :=
 (ref14_Few p_s).bind fun r1 =>
 (if (r1 && (decide ((p_p.travels.length : Int) ≤ 20))) = true then (if (decide ((p_s.steps.length : Int) ≤ 12)) = true then some true else (ref14_Check p_s).bind fun r2 =>
 some (r2 != 0)).bind fun c2 =>
 some c2 else some false).bind fun c1 =>
 some c1

def ref03_Check (p_a : Span) : Option Int :=
 (ref03_Time p_a.low).bind fun r1 =>
 (if (!r1) = true then some true else (ref03_Time p_a.high).bind fun r2 =>
 some (!r2)).bind fun c1 =>
 if c1 = true then
 some 2
 else
 if (decide (p_a.low > p_a.high)) = true then
  some 9
 else
  some 0

def ref17_Way (p_p : Plant) (p_x : Stroke) : Option Span :=
 if p_x.out = true then
 (at? p_p.travels p_x.actuator).bind fun x1 =>
  some x1.out
 else
 (at? p_p.travels p_x.actuator).bind fun x2 =>
  some x2.in_

def ref17_point (p_t : Int) : Option Span :=
 some (Span.mk p_t p_t)

def ref03_Last (p_a : Span) (p_b : Span) : Option Span :=
 some (Span.mk (if p_b.low > p_a.low then p_b.low else p_a.low) (if p_b.high > p_a.high then p_b.high else p_a.high))

def ref03_Plus (p_a : Span) (p_b : Span) : Option Span :=
 some (Span.mk (IntKind.wrap .i64 (p_a.low + p_b.low)) (IntKind.wrap .i64 (p_a.high + p_b.high)))

def ref17_All_loop2 (p_p : Plant) (i2 : Int) (i3 : Int) (x1 : Step) (k3 : (Int → Int → Option (List RSlot))) : Nat → Int → Int → Int → Option (List RSlot)
 | 0, _, _, _ => none
 | m2 + 1, i4, i5, i6 => if (decide (i4 < (x1.strokes.length : Int))) = true then
  (at? x1.strokes i4).bind fun x2 =>
   (ref17_Way p_p x2).bind fun r2 =>
   (ref03_Plus (Span.mk i2 i3) r2).bind fun r3 =>
   (ref03_Last (Span.mk i5 i6) r3).bind fun r4 =>
   ref17_All_loop2 p_p i2 i3 x1 k3 m2 (IntKind.wrap .i64 (i4 + 1)) r4.low r4.high
  else
   k3 i5 i6
def ref17_All_loop1 (p_s : Sequence) (k1 : ((List RSlot) → Option (List RSlot))) (p_p : Plant) : Nat → Int → (List RSlot) → Int → Int → Option (List RSlot)
 | 0, _, _, _, _ => none
 | m1 + 1, i1, l1, i2, i3 => if (decide (i1 < (p_s.steps.length : Int))) = true then
  joinK (fun (l3 : (List RSlot)) (i11 : Int) (i12 : Int) =>
   ref17_All_loop1 p_s k1 p_p m1 (IntKind.wrap .i64 (i1 + 1)) l3 i11 i12) fun k2 =>
   (at? p_s.steps i1).bind fun x1 =>
   joinK (fun (i7 : Int) (i8 : Int) =>
    joinK (fun (i9 : Int) (i10 : Int) =>
     (appO 48 l1 ([(RSlot.mk (Span.mk i2 i3) (Span.mk i7 i8) (Span.mk i9 i10))] : List RSlot)).bind fun _ =>
      k2 (l1 ++ ([(RSlot.mk (Span.mk i2 i3) (Span.mk i7 i8) (Span.mk i9 i10))] : List RSlot)) i9 i10) fun k4 =>
     (ref17_point x1.wait).bind fun r5 =>
     (ref03_Plus (Span.mk i7 i8) r5).bind fun r6 =>
     k4 r6.low r6.high) fun k3 =>
   ref17_All_loop2 p_p i2 i3 x1 k3 (Int.toNat ((x1.strokes.length : Int) - 0) + 1) 0 i2 i3
  else
   k1 l1
def ref17_All (p_s : Sequence) (p_p : Plant) : Option (List RSlot) :=
 (ref17_point 0).bind fun r1 =>
 joinK (fun (l4 : (List RSlot)) =>
  some l4) fun k1 =>
 ref17_All_loop1 p_s k1 p_p (Int.toNat ((p_s.steps.length : Int) - 0) + 1) 0 ([] : List RSlot) r1.low r1.high

def ref17_Whole (p_s : Sequence) (p_p : Plant) : Option Span :=
 (ref17_All p_s p_p).bind fun r1 =>
 (at? r1 (IntKind.wrap .i64 ((p_s.steps.length : Int) - 1))).bind fun x1 =>
 some x1.end_

def ref17_Check_loop1 (p_p : Plant) (k1 : (Option Int)) : Nat → Int → Option Int
 | 0, _ => none
 | m1 + 1, i1 => if (decide (i1 < (p_p.travels.length : Int))) = true then
  (at? p_p.travels i1).bind fun x1 =>
   (ref03_Check x1.out).bind fun r2 =>
   if (r2 != 0) = true then
   some r2
  else
   (at? p_p.travels i1).bind fun x2 =>
    (ref03_Check x2.in_).bind fun r3 =>
    if (r3 != 0) = true then
    some r3
   else
    ref17_Check_loop1 p_p k1 m1 (IntKind.wrap .i64 (i1 + 1))
  else
   k1
def ref17_Check (p_s : Sequence) (p_p : Plant) : Option Int :=
 (ref14_Check p_s).bind fun r1 =>
 if (r1 != 0) = true then
 some r1
 else
 if ((p_p.travels.length : Int) != p_s.actuators) = true then
  some 8
 else
  joinK ((ref17_Whole p_s p_p).bind fun r4 =>
   if (decide (r4.high > 1000000)) = true then
   some 11
  else
   some 0) fun k1 =>
   ref17_Check_loop1 p_p k1 (Int.toNat ((p_p.travels.length : Int) - 0) + 1) 0

def ref03_Has (p_a : Span) (p_t : Int) : Option Bool :=
 some ((decide (p_t ≥ p_a.low)) && (decide (p_t ≤ p_a.high)))

def ref17_Chosen_loop2 (p_p : Plant) (p_times : (List (List Int))) (i1 : Int) (k2 : (Option Int)) (x1 : Step) : Nat → Int → Option Int
 | 0, _ => none
 | m2 + 1, i2 => if (decide (i2 < (x1.strokes.length : Int))) = true then
  (at? x1.strokes i2).bind fun x3 =>
   (ref17_Way p_p x3).bind fun r1 =>
   (at? p_times i1).bind fun x4 =>
   (at? x4 i2).bind fun x5 =>
   (ref03_Has r1 x5).bind fun r2 =>
   if (!r2) = true then
   some 2
  else
   ref17_Chosen_loop2 p_p p_times i1 k2 x1 m2 (IntKind.wrap .i64 (i2 + 1))
  else
   k2
def ref17_Chosen_loop1 (p_s : Sequence) (p_times : (List (List Int))) (k1 : (Option Int)) (p_p : Plant) : Nat → Int → Option Int
 | 0, _ => none
 | m1 + 1, i1 => if (decide (i1 < (p_times.length : Int))) = true then
  joinK (ref17_Chosen_loop1 p_s p_times k1 p_p m1 (IntKind.wrap .i64 (i1 + 1))) fun k2 =>
   (at? p_s.steps i1).bind fun x1 =>
   (at? p_times i1).bind fun x2 =>
   if ((x2.length : Int) != (x1.strokes.length : Int)) = true then
   some 8
  else
   ref17_Chosen_loop2 p_p p_times i1 k2 x1 (Int.toNat ((x1.strokes.length : Int) - 0) + 1) 0
  else
   k1
def ref17_Chosen (p_s : Sequence) (p_p : Plant) (p_times : (List (List Int))) : Option Int :=
 if ((p_times.length : Int) != (p_s.steps.length : Int)) = true then
 some 8
 else
 joinK (some 0) fun k1 =>
  ref17_Chosen_loop1 p_s p_times k1 p_p (Int.toNat ((p_times.length : Int) - 0) + 1) 0

def schedule_later (p_a : Span) (p_b : Span) : Option Span :=
 some (Span.mk (IntKind.wrap .i64 (p_a.low + p_b.low)) (IntKind.wrap .i64 (p_a.high + p_b.high)))

def schedule_way (p_p : Plant) (p_x : Stroke) : Option Span :=
 joinK (fun (i1 : Int) =>
  (at? p_p.travels p_x.actuator).bind fun x1 =>
   if (i1 == 0) = true then
   some x1.in_
  else
   if (i1 == 1) = true then
    some x1.out
   else
    none) fun k1 =>
 if p_x.out = true then
 k1 1
 else
 k1 0

def schedule_moves_loop1 (p_p : Plant) (p_x : Step) (k1 : (Int → Option Span)) : Nat → Int → Int → Option Span
 | 0, _, _ => none
 | m1 + 1, i1, i2 => if (decide (i2 < (p_x.strokes.length : Int))) = true then
  (at? p_x.strokes i2).bind fun x1 =>
   (schedule_way p_p x1).bind fun r1 =>
   schedule_moves_loop1 p_p p_x k1 m1 (if r1.low > i1 then r1.low else i1) (IntKind.wrap .i64 (i2 + 1))
  else
   k1 i1
def schedule_moves_loop2 (p_p : Plant) (p_x : Step) (k2 : (Int → Option Span)) : Nat → Int → Int → Option Span
 | 0, _, _ => none
 | m2 + 1, i4, i5 => if (decide (i5 < (p_x.strokes.length : Int))) = true then
  (at? p_x.strokes i5).bind fun x2 =>
   (schedule_way p_p x2).bind fun r2 =>
   schedule_moves_loop2 p_p p_x k2 m2 (if r2.high > i4 then r2.high else i4) (IntKind.wrap .i64 (i5 + 1))
  else
   k2 i4
def schedule_moves (p_p : Plant) (p_x : Step) : Option Span :=
 joinK (fun (i3 : Int) =>
  joinK (fun (i6 : Int) =>
   some (Span.mk i3 i6)) fun k2 =>
   schedule_moves_loop2 p_p p_x k2 (Int.toNat ((p_x.strokes.length : Int) - 0) + 1) 0 0) fun k1 =>
 schedule_moves_loop1 p_p p_x k1 (Int.toNat ((p_x.strokes.length : Int) - 0) + 1) 0 0

def schedule_waited (p_a : Span) (p_wait : Int) : Option Span :=
 (schedule_later p_a (Span.mk p_wait p_wait)).bind fun r1 =>
 some r1

def schedule_slots_1_loop1 {σ : Type} (step : (σ → (Int × Slot) → Option (Bool × σ))) (p_s : Sequence) (p_p : Plant) : Nat → σ → Int → Int → Int → Option (Bool × σ)
 | 0, _, _, _, _ => none
 | m1 + 1, z1, i1, i2, i3 => if (decide (i1 < (p_s.steps.length : Int))) = true then
  (at? p_s.steps i1).bind fun x1 =>
   joinK (fun (i4 : Int) (i5 : Int) =>
    (schedule_waited (Span.mk i4 i5) x1.wait).bind fun r3 =>
     (step z1 (i1, (Slot.mk (Span.mk i2 i3) (Span.mk i4 i5) r3))).bind fun r4 =>
     if r4.1 = true then
     schedule_slots_1_loop1 step p_s p_p m1 r4.2 (IntKind.wrap .i64 (i1 + 1)) r3.low r3.high
    else
     some (false, r4.2)) fun k1 =>
   (schedule_moves p_p x1).bind fun r1 =>
   (schedule_later (Span.mk i2 i3) r1).bind fun r2 =>
   k1 r2.low r2.high
  else
   some (true, z1)
def schedule_slots_1 {σ : Type} (step : σ → (Int × Slot) → Option (Bool × σ)) (p_s : Sequence) (p_p : Plant) (z : σ) : Option (Bool × σ) :=
 schedule_slots_1_loop1 step p_s p_p (Int.toNat ((p_s.steps.length : Int) - 0) + 1) z 0 0 0

def schedule_whole_rng1 (q1 : (Int × Int)) (xx1 : (Int × Slot)) : Option (Bool × (Int × Int)) :=
 some (true, (xx1.2.end_.low, xx1.2.end_.high))
def schedule_whole (p_s : Sequence) (p_p : Plant) : Option Span :=
 (schedule_slots_1 (schedule_whole_rng1) p_s p_p (0, 0)).bind fun r1 =>
 if r1.1 = true then
 some (Span.mk r1.2.1 r1.2.2)
 else
 none

def stroke_known (p_n : Int) : Option Bool :=
 some ((decide (p_n ≥ 0)) && (decide (p_n < 6)))

def stroke_CheckStep_loop1 (p_x : Step) (k1 : (Option Int)) : Nat → Int → Int → Option Int
 | 0, _, _ => none
 | m1 + 1, i1, i2 => if (decide (i2 < (p_x.strokes.length : Int))) = true then
  (at? p_x.strokes i2).bind fun x1 =>
   (stroke_known x1.actuator).bind fun r1 =>
   if (!r1) = true then
   some 2
  else
   if (x1.actuator == i1) = true then
    some 7
   else
    if (decide (x1.actuator < i1)) = true then
     some 9
    else
     stroke_CheckStep_loop1 p_x k1 m1 x1.actuator (IntKind.wrap .i64 (i2 + 1))
  else
   k1
def stroke_CheckStep (p_x : Step) : Option Int :=
 if ((p_x.strokes.length : Int) == 0) = true then
 some 13
 else
 if (decide ((p_x.strokes.length : Int) > 6)) = true then
  some 5
 else
  joinK (if ((decide (p_x.wait < 0)) || (decide (p_x.wait > 1000000))) = true then
   some 2
  else
   some 0) fun k1 =>
   stroke_CheckStep_loop1 p_x k1 (Int.toNat ((p_x.strokes.length : Int) - 0) + 1) (-1) 0

def sequence_fits_loop1 (p_s : Sequence) (p_step : Step) (k1 : (Option Int)) : Nat → Int → Option Int
 | 0, _ => none
 | m1 + 1, i1 => if (decide (i1 < (p_step.strokes.length : Int))) = true then
  (at? p_step.strokes i1).bind fun x1 =>
   if (decide (x1.actuator ≥ p_s.actuators)) = true then
   some 6
  else
   sequence_fits_loop1 p_s p_step k1 m1 (IntKind.wrap .i64 (i1 + 1))
  else
   k1
def sequence_fits_loop2 (p_step : Step) (p_x : Ends6) (k2 : (Option Int)) : Nat → Int → Option Int
 | 0, _ => none
 | m2 + 1, i2 => if (decide (i2 < (p_step.strokes.length : Int))) = true then
  (at? p_step.strokes i2).bind fun x2 =>
   joinK (fun (c1 : Bool) =>
    if c1 = true then
     some 14
    else
     sequence_fits_loop2 p_step p_x k2 m2 (IntKind.wrap .i64 (i2 + 1))) fun k3 =>
   if (x2.actuator == 0) = true then
   k3 (p_x.a0 == x2.out)
  else
   if (x2.actuator == 1) = true then
    k3 (p_x.a1 == x2.out)
   else
    if (x2.actuator == 2) = true then
     k3 (p_x.a2 == x2.out)
    else
     if (x2.actuator == 3) = true then
      k3 (p_x.a3 == x2.out)
     else
      if (x2.actuator == 4) = true then
       k3 (p_x.a4 == x2.out)
      else
       if (x2.actuator == 5) = true then
        k3 (p_x.a5 == x2.out)
       else
        none
  else
   k2
def sequence_fits (p_s : Sequence) (p_step : Step) (p_x : Ends6) : Option Int :=
 (stroke_CheckStep p_step).bind fun r1 =>
 if (r1 != 0) = true then
 some r1
 else
 joinK (joinK (some 0) fun k2 =>
  sequence_fits_loop2 p_step p_x k2 (Int.toNat ((p_step.strokes.length : Int) - 0) + 1) 0) fun k1 =>
  sequence_fits_loop1 p_s p_step k1 (Int.toNat ((p_step.strokes.length : Int) - 0) + 1) 0

def sequence_ends_behind_loop1 (p_s : Step) (k1 : (Bool → Bool → Bool → Bool → Bool → Bool → Option Ends6)) : Nat → Int → Bool → Bool → Bool → Bool → Bool → Bool → Option Ends6
 | 0, _, _, _, _, _, _, _ => none
 | m1 + 1, i1, c1, c2, c3, c4, c5, c6 => if (decide (i1 < (p_s.strokes.length : Int))) = true then
  (at? p_s.strokes i1).bind fun x1 =>
   if (x1.actuator == 0) = true then
   sequence_ends_behind_loop1 p_s k1 m1 (IntKind.wrap .i64 (i1 + 1)) x1.out c2 c3 c4 c5 c6
  else
   if (x1.actuator == 1) = true then
    sequence_ends_behind_loop1 p_s k1 m1 (IntKind.wrap .i64 (i1 + 1)) c1 x1.out c3 c4 c5 c6
   else
    if (x1.actuator == 2) = true then
     sequence_ends_behind_loop1 p_s k1 m1 (IntKind.wrap .i64 (i1 + 1)) c1 c2 x1.out c4 c5 c6
    else
     if (x1.actuator == 3) = true then
      sequence_ends_behind_loop1 p_s k1 m1 (IntKind.wrap .i64 (i1 + 1)) c1 c2 c3 x1.out c5 c6
     else
      if (x1.actuator == 4) = true then
       sequence_ends_behind_loop1 p_s k1 m1 (IntKind.wrap .i64 (i1 + 1)) c1 c2 c3 c4 x1.out c6
      else
       if (x1.actuator == 5) = true then
        sequence_ends_behind_loop1 p_s k1 m1 (IntKind.wrap .i64 (i1 + 1)) c1 c2 c3 c4 c5 x1.out
       else
        none
  else
   k1 c1 c2 c3 c4 c5 c6
def sequence_ends_behind (p_x : Ends6) (p_s : Step) : Option Ends6 :=
 joinK (fun (c7 : Bool) (c8 : Bool) (c9 : Bool) (c10 : Bool) (c11 : Bool) (c12 : Bool) =>
  some (Ends6.mk c7 c8 c9 c10 c11 c12)) fun k1 =>
 sequence_ends_behind_loop1 p_s k1 (Int.toNat ((p_s.strokes.length : Int) - 0) + 1) 0 p_x.a0 p_x.a1 p_x.a2 p_x.a3 p_x.a4 p_x.a5

def slices_Index_boolbool_loop1 (p_s : (List Bool)) (p_v : Bool) (k1 : (Option Int)) : Nat → Int → Option Int
 | 0, _ => none
 | m1 + 1, i1 => if (decide (i1 < (p_s.length : Int))) = true then
  (at? p_s i1).bind fun x1 =>
   if (p_v == x1) = true then
   some i1
  else
   slices_Index_boolbool_loop1 p_s p_v k1 m1 (IntKind.wrap .i64 (i1 + 1))
  else
   k1
def slices_Index_boolbool (p_s : (List Bool)) (p_v : Bool) : Option Int :=
 joinK (some (-1)) fun k1 =>
 slices_Index_boolbool_loop1 p_s p_v k1 (Int.toNat ((p_s.length : Int) - 0) + 1) 0

def slices_Contains_boolbool (p_s : (List Bool)) (p_v : Bool) : Option Bool :=
 (slices_Index_boolbool p_s p_v).bind fun r1 =>
 some (decide (r1 ≥ 0))

def sequence_Check_loop2 (k2 : (Bool → Bool → Bool → Bool → Bool → Bool → Bool → Bool → Bool → Bool → Bool → Bool → Option Int)) (x1 : Step) (r2 : (Ends6)) : Nat → Int → Bool → Bool → Bool → Bool → Bool → Bool → Option Int
 | 0, _, _, _, _, _, _, _ => none
 | m2 + 1, i2, c13, c14, c15, c16, c17, c18 => if (decide (i2 < (x1.strokes.length : Int))) = true then
  (at? x1.strokes i2).bind fun x2 =>
   if (x2.actuator == 0) = true then
   sequence_Check_loop2 k2 x1 r2 m2 (IntKind.wrap .i64 (i2 + 1)) true c14 c15 c16 c17 c18
  else
   if (x2.actuator == 1) = true then
    sequence_Check_loop2 k2 x1 r2 m2 (IntKind.wrap .i64 (i2 + 1)) c13 true c15 c16 c17 c18
   else
    if (x2.actuator == 2) = true then
     sequence_Check_loop2 k2 x1 r2 m2 (IntKind.wrap .i64 (i2 + 1)) c13 c14 true c16 c17 c18
    else
     if (x2.actuator == 3) = true then
      sequence_Check_loop2 k2 x1 r2 m2 (IntKind.wrap .i64 (i2 + 1)) c13 c14 c15 true c17 c18
     else
      if (x2.actuator == 4) = true then
       sequence_Check_loop2 k2 x1 r2 m2 (IntKind.wrap .i64 (i2 + 1)) c13 c14 c15 c16 true c18
      else
       if (x2.actuator == 5) = true then
        sequence_Check_loop2 k2 x1 r2 m2 (IntKind.wrap .i64 (i2 + 1)) c13 c14 c15 c16 c17 true
       else
        none
  else
   k2 r2.a0 r2.a1 r2.a2 r2.a3 r2.a4 r2.a5 c13 c14 c15 c16 c17 c18
def sequence_Check_loop1 (p_s : Sequence) (k1 : (Bool → Bool → Bool → Bool → Bool → Bool → Bool → Bool → Bool → Bool → Bool → Bool → Option Int)) : Nat → Int → Bool → Bool → Bool → Bool → Bool → Bool → Bool → Bool → Bool → Bool → Bool → Bool → Option Int
 | 0, _, _, _, _, _, _, _, _, _, _, _, _, _ => none
 | m1 + 1, i1, c1, c2, c3, c4, c5, c6, c7, c8, c9, c10, c11, c12 => if (decide (i1 < (p_s.steps.length : Int))) = true then
  joinK (fun (c19 : Bool) (c20 : Bool) (c21 : Bool) (c22 : Bool) (c23 : Bool) (c24 : Bool) (c25 : Bool) (c26 : Bool) (c27 : Bool) (c28 : Bool) (c29 : Bool) (c30 : Bool) =>
   sequence_Check_loop1 p_s k1 m1 (IntKind.wrap .i64 (i1 + 1)) c19 c20 c21 c22 c23 c24 c25 c26 c27 c28 c29 c30) fun k2 =>
   (at? p_s.steps i1).bind fun x1 =>
   (sequence_fits p_s x1 (Ends6.mk c1 c2 c3 c4 c5 c6)).bind fun r1 =>
   if (r1 != 0) = true then
   some r1
  else
   (sequence_ends_behind (Ends6.mk c1 c2 c3 c4 c5 c6) x1).bind fun r2 =>
    sequence_Check_loop2 k2 x1 r2 (Int.toNat ((x1.strokes.length : Int) - 0) + 1) 0 c7 c8 c9 c10 c11 c12
  else
   k1 c1 c2 c3 c4 c5 c6 c7 c8 c9 c10 c11 c12
def sequence_Check (p_s : Sequence) : Option Int :=
 if ((decide (p_s.actuators < 1)) || (decide (p_s.actuators > 6))) = true then
 some 2
 else
 if ((p_s.steps.length : Int) == 0) = true then
  some 13
 else
  if (decide ((p_s.steps.length : Int) > 64)) = true then
   some 5
  else
   joinK (fun (c31 : Bool) (c32 : Bool) (c33 : Bool) (c34 : Bool) (c35 : Bool) (c36 : Bool) (c37 : Bool) (c38 : Bool) (c39 : Bool) (c40 : Bool) (c41 : Bool) (c42 : Bool) =>
    if (!((Ends6.mk c31 c32 c33 c34 c35 c36) == (Ends6.mk false false false false false false))) = true then
     some 9
    else
     (part? ([c37, c38, c39, c40, c41, c42] : List Bool) 0 p_s.actuators).bind fun l1 =>
      (slices_Contains_boolbool l1 false).bind fun r3 =>
      if r3 = true then
      some 13
     else
      some 0) fun k1 =>
    sequence_Check_loop1 p_s k1 (Int.toNat ((p_s.steps.length : Int) - 0) + 1) 0 false false false false false false false false false false false false

def timespan_timely (p_n : Int) : Option Bool :=
 some ((decide (p_n ≥ 0)) && (decide (p_n ≤ 1000000)))

def timespan_Check (p_a : Span) : Option Int :=
 (timespan_timely p_a.low).bind fun r1 =>
 (if (!r1) = true then some true else (timespan_timely p_a.high).bind fun r2 =>
 some (!r2)).bind fun c1 =>
 if c1 = true then
 some 2
 else
 if (decide (p_a.low > p_a.high)) = true then
  some 9
 else
  some 0

def schedule_Check_loop2 (k2 : (Option Int)) (x1 : Travel) : Nat → Int → Option Int
 | 0, _ => none
 | m2 + 1, i2 => if (decide (i2 < (([x1.out, x1.in_] : List Span).length : Int))) = true then
  (at? ([x1.out, x1.in_] : List Span) i2).bind fun x2 =>
   (timespan_Check x2).bind fun r2 =>
   if (r2 != 0) = true then
   some r2
  else
   schedule_Check_loop2 k2 x1 m2 (IntKind.wrap .i64 (i2 + 1))
  else
   k2
def schedule_Check_loop1 (p_p : Plant) (k1 : (Option Int)) : Nat → Int → Option Int
 | 0, _ => none
 | m1 + 1, i1 => if (decide (i1 < (p_p.travels.length : Int))) = true then
  joinK (schedule_Check_loop1 p_p k1 m1 (IntKind.wrap .i64 (i1 + 1))) fun k2 =>
   (at? p_p.travels i1).bind fun x1 =>
   schedule_Check_loop2 k2 x1 (Int.toNat ((([x1.out, x1.in_] : List Span).length : Int) - 0) + 1) 0
  else
   k1
def schedule_Check (p_s : Sequence) (p_p : Plant) : Option Int :=
 (sequence_Check p_s).bind fun r1 =>
 if (r1 != 0) = true then
 some r1
 else
 if ((p_p.travels.length : Int) != p_s.actuators) = true then
  some 8
 else
  joinK ((schedule_whole p_s p_p).bind fun r3 =>
   if (decide (r3.high > 1000000)) = true then
   some 11
  else
   some 0) fun k1 =>
   schedule_Check_loop1 p_p k1 (Int.toNat ((p_p.travels.length : Int) - 0) + 1) 0

def schedule_Cycle (p_s : Sequence) (p_p : Plant) : Option (Span × Int) :=
 (schedule_Check p_s p_p).bind fun r1 =>
 if (r1 != 0) = true then
 some ((Span.mk 0 0), r1)
 else
 (schedule_whole p_s p_p).bind fun r2 =>
  some (r2, 0)

def lexer_class_loop1 (p_b : Int) (k1 : (Option Int)) : Nat → Int → Option Int
 | 0, _ => none
 | m1 + 1, i1 => if (decide (i1 < 6)) = true then
  (at? lexer_ranges i1).bind fun x1 =>
   if ((decide (x1.a0 ≤ p_b)) && (decide (p_b ≤ x1.a1))) = true then
   some (IntKind.wrap .i64 x1.a2)
  else
   lexer_class_loop1 p_b k1 m1 (IntKind.wrap .i64 (i1 + 1))
  else
   k1
def lexer_class (p_b : Int) : Option Int :=
 joinK ((idxB [43, 45, 42, 47, 40, 41, 91, 93, 123, 125, 60, 62, 61, 44, 59, 58, 124, 38, 33, 35, 46] p_b).bind fun r1 =>
 if (decide (r1 ≥ 0)) = true then
 some 4
 else
 some 0) fun k1 =>
 lexer_class_loop1 p_b k1 (Int.toNat (6 - 0) + 1) 0

def lexer_run_loop2 (p_s : (List UInt8)) (p_classes : (List Int)) (i1 : Int) (k3 : (Bool → Option Int)) : Nat → Bool → Int → Option Int
 | 0, _, _ => none
 | m2 + 1, c1, i2 => if (decide (i2 < (p_classes.length : Int))) = true then
  (at? p_classes i2).bind fun x1 =>
   (if c1 = true then some true else (byteAt p_s i1).bind fun b1 =>
   (lexer_class (b1.toNat : Int)).bind fun r1 =>
   some (r1 == x1)).bind fun c2 =>
   lexer_run_loop2 p_s p_classes i1 k3 m2 c2 (IntKind.wrap .i64 (i2 + 1))
  else
   k3 c1
def lexer_run_loop1 (p_s : (List UInt8)) (p_classes : (List Int)) (k1 : (Option Int)) : Nat → Int → Option Int
 | 0, _ => none
 | m1 + 1, i1 => if (decide (i1 < (p_s.length : Int))) = true then
  joinK (lexer_run_loop1 p_s p_classes k1 m1 (IntKind.wrap .i64 (i1 + 1))) fun k2 =>
   joinK (fun (c3 : Bool) =>
    if (!c3) = true then
     some i1
    else
     k2) fun k3 =>
   lexer_run_loop2 p_s p_classes i1 k3 (Int.toNat ((p_classes.length : Int) - 0) + 1) false 0
  else
   k1
def lexer_run (p_s : (List UInt8)) (p_classes : (List Int)) : Option Int :=
 joinK (some (p_s.length : Int)) fun k1 =>
 lexer_run_loop1 p_s p_classes k1 (Int.toNat ((p_s.length : Int) - 0) + 1) 0

def lexer_Word (p_s : (List UInt8)) : Option Int :=
 (if (p_s == []) = true then some true else (byteAt p_s 0).bind fun b1 =>
 (lexer_class (b1.toNat : Int)).bind fun r1 =>
 some (r1 != 1)).bind fun c1 =>
 (if c1 = true then some true else (lexer_run p_s ([1, 2, 3] : List Int)).bind fun r2 =>
 some (r2 != (p_s.length : Int))).bind fun c2 =>
 if c2 = true then
 some 3
 else
 if (decide ((p_s.length : Int) > 24)) = true then
  some 17
 else
  some 0

def lexer_Number (p_s : (List UInt8)) : Option Int :=
 (if (p_s == []) = true then some true else (lexer_run p_s ([2] : List Int)).bind fun r1 =>
 some (r1 != (p_s.length : Int))).bind fun c1 =>
 (if c1 = true then some true else (byteAt p_s 0).bind fun b2 =>
 some (((b2.toNat : Int) == 48) && (!(p_s == [48])))).bind fun c2 =>
 if c2 = true then
 some 3
 else
 if (decide ((p_s.length : Int) > 7)) = true then
  some 17
 else
  some 0

def lexer_Scan_loop1 (p_text : (List UInt8)) (k1 : ((List Token) → Option ((List Token) × Int × Int))) : Nat → Int → (List Token) → Option ((List Token) × Int × Int)
 | 0, _, _ => none
 | m1 + 1, i1, l2 => if (decide (i1 < (p_text.length : Int))) = true then
  (byteAt p_text i1).bind fun b10 =>
   (lexer_class (b10.toNat : Int)).bind fun r1 =>
   if (r1 == 5) = true then
   lexer_Scan_loop1 p_text k1 m1 (IntKind.wrap .i64 (i1 + 1)) l2
  else
   if (r1 == 0) = true then
    if ((4 : Int) != 0) = true then
     some ([], i1, 4)
    else
     (appO 32 l2 ([(Token.mk 0 [] i1)] : List Token)).bind fun _ =>
      some ((l2 ++ ([(Token.mk 0 [] i1)] : List Token)), 0, 0)
   else
    if (r1 == 1) = true then
     (cut p_text i1 (p_text.length : Int)).bind fun s1 =>
      (lexer_run s1 ([1, 2, 3] : List Int)).bind fun r2 =>
      (cut p_text i1 (IntKind.wrap .i64 (i1 + (if r2 > 1 then r2 else 1)))).bind fun s2 =>
      (lexer_Word s2).bind fun r3 =>
      if (r3 != 0) = true then
      some ([], i1, r3)
     else
      (appO 32 l2 ([(Token.mk 0 s2 i1)] : List Token)).bind fun _ =>
       if (r3 != 0) = true then
       some ((l2 ++ ([(Token.mk 0 s2 i1)] : List Token)), 0, 0)
      else
       lexer_Scan_loop1 p_text k1 m1 (IntKind.wrap .i64 (i1 + (if r2 > 1 then r2 else 1))) (l2 ++ ([(Token.mk 0 s2 i1)] : List Token))
    else
     if (r1 == 2) = true then
      (cut p_text i1 (p_text.length : Int)).bind fun s3 =>
       (lexer_run s3 ([2] : List Int)).bind fun r4 =>
       (cut p_text i1 (IntKind.wrap .i64 (i1 + (if r4 > 1 then r4 else 1)))).bind fun s4 =>
       (lexer_Number s4).bind fun r5 =>
       if (r5 != 0) = true then
       some ([], i1, r5)
      else
       (appO 32 l2 ([(Token.mk 1 s4 i1)] : List Token)).bind fun _ =>
        if (r5 != 0) = true then
        some ((l2 ++ ([(Token.mk 1 s4 i1)] : List Token)), 0, 0)
       else
        lexer_Scan_loop1 p_text k1 m1 (IntKind.wrap .i64 (i1 + (if r4 > 1 then r4 else 1))) (l2 ++ ([(Token.mk 1 s4 i1)] : List Token))
     else
      if (r1 == 3) = true then
       if ((4 : Int) != 0) = true then
        some ([], i1, 4)
       else
        (appO 32 l2 ([(Token.mk 0 [] i1)] : List Token)).bind fun _ =>
         some ((l2 ++ ([(Token.mk 0 [] i1)] : List Token)), 0, 0)
      else
       if (r1 == 4) = true then
        (cut p_text i1 (p_text.length : Int)).bind fun s5 =>
         (lexer_run s5 []).bind fun r6 =>
         (cut p_text i1 (IntKind.wrap .i64 (i1 + (if r6 > 1 then r6 else 1)))).bind fun s6 =>
         if ((0 : Int) != 0) = true then
         some ([], i1, 0)
        else
         (appO 32 l2 ([(Token.mk 2 s6 i1)] : List Token)).bind fun _ =>
          if ((0 : Int) != 0) = true then
          some ((l2 ++ ([(Token.mk 2 s6 i1)] : List Token)), 0, 0)
         else
          lexer_Scan_loop1 p_text k1 m1 (IntKind.wrap .i64 (i1 + (if r6 > 1 then r6 else 1))) (l2 ++ ([(Token.mk 2 s6 i1)] : List Token))
       else
        if (r1 == 5) = true then
         if ((4 : Int) != 0) = true then
          some ([], i1, 4)
         else
          (appO 32 l2 ([(Token.mk 0 [] i1)] : List Token)).bind fun _ =>
           some ((l2 ++ ([(Token.mk 0 [] i1)] : List Token)), 0, 0)
        else
         none
  else
   k1 l2
def lexer_Scan (p_text : (List UInt8)) : Option ((List Token) × Int × Int) :=
 if (decide ((p_text.length : Int) > 4096)) = true then
 some ([], 0, 17)
 else
 joinK (fun (l9 : (List Token)) =>
  if ((0 : Int) != 0) = true then
   some ([], (p_text.length : Int), 0)
  else
   (appO 32 l9 ([(Token.mk 3 [] (p_text.length : Int))] : List Token)).bind fun _ =>
    some ((l9 ++ ([(Token.mk 3 [] (p_text.length : Int))] : List Token)), 0, 0)) fun k1 =>
  lexer_Scan_loop1 p_text k1 (Int.toNat ((p_text.length : Int) - 0) + 1) 0 ([] : List Token)

def program_reader_takes (p_r : Rdr) (p_kind : Int) (p_text : (List UInt8)) : Option (Bool × Int × Bool) :=
 (at? p_r.tokens p_r.at_).bind fun x1 =>
 if ((p_r.bad || (x1.kind != p_kind)) || ((!(p_text == [])) && (!(x1.text == p_text)))) = true then
 some (false, p_r.at_, p_r.bad)
 else
 some (true, (IntKind.wrap .i64 (p_r.at_ + 1)), p_r.bad)

def program_reader_needs (p_r : Rdr) (p_kind : Int) (p_text : (List UInt8)) : Option ((List UInt8) × Int × Bool) :=
 (at? p_r.tokens p_r.at_).bind fun x1 =>
 (program_reader_takes p_r p_kind p_text).bind fun r1 =>
 if (!r1.1) = true then
 some ([], r1.2.1, true)
 else
 some (x1.text, r1.2.1, r1.2.2)

def internal_stringslite_HasPrefix (p_s : (List UInt8)) (p_prefix : (List UInt8)) : Option Bool :=
 (if (decide ((p_s.length : Int) ≥ (p_prefix.length : Int))) = true then (cut p_s 0 (p_prefix.length : Int)).bind fun s1 =>
 some (s1 == p_prefix) else some false).bind fun c1 =>
 some c1

def internal_stringslite_CutPrefix (p_s : (List UInt8)) (p_prefix : (List UInt8)) : Option ((List UInt8) × Bool) :=
 (internal_stringslite_HasPrefix p_s p_prefix).bind fun r1 =>
 if (!r1) = true then
 some (p_s, false)
 else
 (cut p_s (p_prefix.length : Int) (p_s.length : Int)).bind fun s1 =>
  some (s1, true)

def strings_CutPrefix (p_s : (List UInt8)) (p_prefix : (List UInt8)) : Option ((List UInt8) × Bool) :=
 (internal_stringslite_CutPrefix p_s p_prefix).bind fun r1 =>
 some (r1.1, r1.2)

def internal_strconv_Atoi_loop1 (s2 : (List UInt8)) (k3 : (Int → Option (Int × Unit))) : Nat → Int → Int → Option (Int × Unit)
 | 0, _, _ => none
 | m1 + 1, i1, i2 => if (decide (i2 < ((bytesI s2).length : Int))) = true then
  (at? (bytesI s2) i2).bind fun x1 =>
   if (decide ((IntKind.wrap .u8 (x1 - 48)) > 9)) = true then
   none
  else
   internal_strconv_Atoi_loop1 s2 k3 m1 (IntKind.wrap .i64 ((IntKind.wrap .i64 (i1 * 10)) + (IntKind.wrap .i64 (IntKind.wrap .u8 (x1 - 48))))) (IntKind.wrap .i64 (i2 + 1))
  else
   k3 i1
def internal_strconv_Atoi (p_s : (List UInt8)) : Option (Int × Unit) :=
 joinK (none) fun k1 =>
 if ((decide ((0 : Int) < (p_s.length : Int))) && (decide ((p_s.length : Int) < 19))) = true then
 joinK (fun (s2 : (List UInt8)) =>
  joinK (fun (i3 : Int) =>
   joinK (fun (i4 : Int) =>
    some (i4, ())) fun k4 =>
    (byteAt p_s 0).bind fun b3 =>
    if ((b3.toNat : Int) == 45) = true then
    k4 (IntKind.wrap .i64 (0 - i3))
   else
    k4 i3) fun k3 =>
   internal_strconv_Atoi_loop1 s2 k3 (Int.toNat (((bytesI s2).length : Int) - 0) + 1) 0 0) fun k2 =>
  (byteAt p_s 0).bind fun b1 =>
  (if ((b1.toNat : Int) == 45) = true then some true else (byteAt p_s 0).bind fun b2 =>
  some ((b2.toNat : Int) == 43)).bind fun c1 =>
  if c1 = true then
  (cut p_s 1 (p_s.length : Int)).bind fun s1 =>
   if (decide ((s1.length : Int) < 1)) = true then
   none
  else
   k2 s1
 else
  k2 p_s
 else
 k1

def strconv_Atoi (p_s : (List UInt8)) : Option (Int × Unit) :=
 (internal_strconv_Atoi p_s).bind fun r1 =>
 some (r1.1, ())

def lexer_Value (p_s : (List UInt8)) : Option (Int × Int) :=
 (strings_CutPrefix p_s [45]).bind fun r1 =>
 (lexer_Number r1.1).bind fun r2 =>
 if (r2 != 0) = true then
 some (0, r2)
 else
 if (r1.2 && (r1.1 == [48])) = true then
  some (0, 3)
 else
  (strconv_Atoi p_s).bind fun r3 =>
   some (r3.1, 0)

def program_value (p_s : (List UInt8)) : Option Int :=
 (lexer_Value p_s).bind fun r1 =>
 some r1.1

def program_reader_step_loop1 (p_r : Rdr) (k1 : (Int → Bool → (List Stroke) → Option (Node × Int × Bool))) : Nat → Int → Bool → (List Stroke) → Option (Node × Int × Bool)
 | 0, _, _, _ => none
 | m1 + 1, i1, c1, l1 => if (!c1) = true then
  (at? p_r.tokens i1).bind fun x1 =>
   (indexS [65, 66, 67, 68, 69, 70] x1.text).bind fun r1 =>
   if (((x1.kind != 0) || ((x1.text.length : Int) != 1)) || (decide (r1 < 0))) = true then
   k1 i1 ((l1.length : Int) == 0) l1
  else
   (program_reader_takes (Rdr.mk p_r.tokens (IntKind.wrap .i64 (i1 + 1)) c1) 2 [43]).bind fun r2 =>
    joinK (fun (i2 : Int) (c2 : Bool) =>
     (appO 16 l1 ([(Stroke.mk r1 r2.1)] : List Stroke)).bind fun _ =>
      program_reader_step_loop1 p_r k1 m1 i2 c2 (l1 ++ ([(Stroke.mk r1 r2.1)] : List Stroke))) fun k2 =>
    if (!r2.1) = true then
    (program_reader_needs (Rdr.mk p_r.tokens r2.2.1 r2.2.2) 2 [45]).bind fun r3 =>
     k2 r3.2.1 r3.2.2
   else
    k2 r2.2.1 r2.2.2
  else
   k1 i1 c1 l1
def program_reader_step (p_r : Rdr) : Option (Node × Int × Bool) :=
 joinK (fun (i3 : Int) (c3 : Bool) (l3 : (List Stroke)) =>
  joinK (fun (i4 : Int) (c4 : Bool) (i5 : Int) =>
   some ((Node.mk 0 (Step.mk l3 i5) 0 [] []), i4, c4)) fun k3 =>
   (at? p_r.tokens i3).bind fun x2 =>
   (program_reader_takes (Rdr.mk p_r.tokens i3 c3) 1 []).bind fun r4 =>
   if r4.1 = true then
   (program_value x2.text).bind fun r5 =>
    k3 r4.2.1 r4.2.2 r5
  else
   k3 r4.2.1 r4.2.2 0) fun k1 =>
 program_reader_step_loop1 p_r k1 (p_r.tokens.length + 2) p_r.at_ p_r.bad ([] : List Stroke)

def program_reader_node_loop1 (p_r : Rdr) (self : (Rdr → Option (Node × Int × Bool))) (k2 : (Int → Bool → (List Node) → Option (Node × Int × Bool))) : Nat → Int → Bool → (List Node) → Option (Node × Int × Bool)
 | 0, _, _, _ => none
 | m1 + 1, i1, c1, l1 => (program_reader_takes (Rdr.mk p_r.tokens i1 c1) 2 [59]).bind fun r3 =>
  if r3.1 = true then
  (self (Rdr.mk p_r.tokens r3.2.1 r3.2.2)).bind fun r4 =>
   (appO 88 l1 ([r4.1] : List Node)).bind fun _ =>
   program_reader_node_loop1 p_r self k2 m1 r4.2.1 r4.2.2 (l1 ++ ([r4.1] : List Node))
  else
   k2 r3.2.1 r3.2.2 l1
def program_reader_node_body (self : Rdr → Option (Node × Int × Bool)) (p_r : Rdr) : Option (Node × Int × Bool) :=
 joinK (fun (i3 : Int) (c3 : Bool) =>
  (program_reader_step (Rdr.mk p_r.tokens i3 c3)).bind fun r15 =>
   some (r15.1, r15.2.1, r15.2.2)) fun k1 =>
 (program_reader_takes p_r 2 [123]).bind fun r1 =>
 if r1.1 = true then
 (self (Rdr.mk p_r.tokens r1.2.1 r1.2.2)).bind fun r2 =>
  joinK (fun (i2 : Int) (c2 : Bool) (l3 : (List Node)) =>
   (program_reader_needs (Rdr.mk p_r.tokens i2 c2) 2 [125]).bind fun r5 =>
    some ((Node.mk 1 (Step.mk [] 0) 0 [] l3), r5.2.1, r5.2.2)) fun k2 =>
  program_reader_node_loop1 p_r self k2 (p_r.tokens.length + 2) r2.2.1 r2.2.2 ([r2.1] : List Node)
 else
 (program_reader_takes (Rdr.mk p_r.tokens r1.2.1 r1.2.2) 0 [114, 101, 112, 101, 97, 116]).bind fun r6 =>
  if r6.1 = true then
  (program_reader_needs (Rdr.mk p_r.tokens r6.2.1 r6.2.2) 1 []).bind fun r7 =>
   (program_value r7.1).bind fun r8 =>
   (self (Rdr.mk p_r.tokens r7.2.1 r7.2.2)).bind fun r9 =>
   some ((Node.mk 2 (Step.mk [] 0) r8 [] ([r9.1] : List Node)), r9.2.1, r9.2.2)
 else
  (program_reader_takes (Rdr.mk p_r.tokens r6.2.1 r6.2.2) 0 [105, 102]).bind fun r10 =>
   if r10.1 = true then
   (program_reader_needs (Rdr.mk p_r.tokens r10.2.1 r10.2.2) 0 []).bind fun r11 =>
    (self (Rdr.mk p_r.tokens r11.2.1 r11.2.2)).bind fun r12 =>
    (program_reader_needs (Rdr.mk p_r.tokens r12.2.1 r12.2.2) 0 [101, 108, 115, 101]).bind fun r13 =>
    (self (Rdr.mk p_r.tokens r13.2.1 r13.2.2)).bind fun r14 =>
    some ((Node.mk 3 (Step.mk [] 0) 0 r11.1 ([r12.1, r14.1] : List Node)), r14.2.1, r14.2.2)
  else
   k1 r10.2.1 r10.2.2
def program_reader_node : Nat → Rdr → Option (Node × Int × Bool)
 | 0 => fun _ => none
 | n + 1 => program_reader_node_body (program_reader_node n)

def program_preorder_1_1_loop1 {σ : Type} (p_n : Node) (p_depth : Int) (self : (Node → Int → σ → Option (Bool × σ))) (k1 : (σ → Option (Bool × σ))) : Nat → σ → Int → Option (Bool × σ)
 | 0, _, _ => none
 | m1 + 1, z1, i1 => if (decide (i1 < (p_n.nodes.length : Int))) = true then
  (at? p_n.nodes i1).bind fun x1 =>
   if (decide (p_depth ≤ 16)) = true then
   (self x1 (IntKind.wrap .i64 (p_depth + 1)) z1).bind fun r2 =>
    if r2.1 = true then
    program_preorder_1_1_loop1 p_n p_depth self k1 m1 r2.2 (IntKind.wrap .i64 (i1 + 1))
   else
    some (false, r2.2)
  else
   program_preorder_1_1_loop1 p_n p_depth self k1 m1 z1 (IntKind.wrap .i64 (i1 + 1))
  else
   k1 z1
def program_preorder_1_1_body {σ : Type} (step : σ → (Int × Node) → Option (Bool × σ)) (self : Node → Int → σ → Option (Bool × σ)) (p_n : Node) (p_depth : Int) (z : σ) : Option (Bool × σ) :=
 (step z (p_depth, p_n)).bind fun r1 =>
 if r1.1 = true then
 joinK (fun (z2 : σ) =>
  some (true, z2)) fun k1 =>
  program_preorder_1_1_loop1 p_n p_depth self k1 (p_n.nodes.length + 1) r1.2 0
 else
 some (false, r1.2)
def program_preorder_1_1 {σ : Type} (step : σ → (Int × Node) → Option (Bool × σ)) : Nat → Node → Int → σ → Option (Bool × σ)
 | 0 => fun _ _ _ => none
 | n + 1 => program_preorder_1_1_body step (program_preorder_1_1 step n)

def program_preorder_1 {σ : Type} (step : σ → (Int × Node) → Option (Bool × σ)) (p_n : Node) (z : σ) : Option (Bool × σ) :=
 (program_preorder_1_1 step 600 p_n 1 z).bind fun r1 =>
 if r1.1 = true then
 some (true, r1.2)
 else
 some (false, r1.2)

def program_light_rng1 (q1 : Int) (xx1 : (Int × Node)) : Option (Bool × Int) :=
 if ((decide ((IntKind.wrap .i64 (q1 + 1)) > 256)) || (decide (xx1.1 > 16))) = true then
  some (false, (IntKind.wrap .i64 (q1 + 1)))
 else
  some (true, (IntKind.wrap .i64 (q1 + 1)))
def program_light (p_n : Node) : Option Bool :=
 (program_preorder_1 (program_light_rng1) p_n 0).bind fun r1 =>
 if r1.1 = true then
 some true
 else
 some false

def program_alone (p_n : Node) : Option Int :=
 joinK (some 0) fun k1 =>
 if (p_n.kind == 0) = true then
 if (((decide ((p_n.nodes.length : Int) > 0)) || (p_n.count != 0)) || (!(p_n.name == []))) = true then
  some 3
 else
  (stroke_CheckStep p_n.step).bind fun r1 =>
   some r1
 else
 if (p_n.kind == 1) = true then
  if (((((p_n.nodes.length : Int) == 0) || ((decide ((p_n.step.strokes.length : Int) > 0)) || (p_n.step.wait != 0))) || (p_n.count != 0)) || (!(p_n.name == []))) = true then
   some 3
  else
   k1
 else
  if (p_n.kind == 2) = true then
   if ((((p_n.nodes.length : Int) != 1) || ((decide ((p_n.step.strokes.length : Int) > 0)) || (p_n.step.wait != 0))) || (!(p_n.name == []))) = true then
    some 3
   else
    if ((decide (p_n.count < 1)) || (decide (p_n.count > 64))) = true then
     some 2
    else
     k1
  else
   if (p_n.kind == 3) = true then
    if ((((p_n.nodes.length : Int) != 2) || ((decide ((p_n.step.strokes.length : Int) > 0)) || (p_n.step.wait != 0))) || (p_n.count != 0)) = true then
     some 3
    else
     (lexer_Word p_n.name).bind fun r2 =>
      some r2
   else
    some 1

def program_Check_rng1 (q1 : Int) (xx1 : (Int × Node)) : Option (Bool × Int) :=
 (program_alone xx1.2).bind fun r2 =>
  if (r2 != 0) = true then
  some (false, r2)
 else
  some (true, q1)
def program_Check (p_n : Node) : Option Int :=
 (program_light p_n).bind fun r1 =>
 if (!r1) = true then
 some 5
 else
 (program_preorder_1 (program_Check_rng1) p_n 0).bind fun r3 =>
  if r3.1 = true then
  some 0
 else
  some r3.2

def program_Parse (p_text : (List UInt8)) : Option (Node × Int × Int) :=
 (lexer_Scan p_text).bind fun r1 =>
 if (r1.2.2 != 0) = true then
 some ((Node.mk 0 (Step.mk [] 0) 0 [] []), r1.2.1, r1.2.2)
 else
 (program_reader_node 600 (Rdr.mk r1.1 0 false)).bind fun r2 =>
  (at? r1.1 r2.2.1).bind fun x1 =>
  if (r2.2.2 || (x1.kind != 3)) = true then
  some ((Node.mk 0 (Step.mk [] 0) 0 [] []), x1.at_, 4)
 else
  (program_Check r2.1).bind fun r3 =>
   if (r3 != 0) = true then
   some ((Node.mk 0 (Step.mk [] 0) 0 [] []), 0, r3)
  else
   some (r2.1, 0, 0)

def program_of_loop1 (p_n : Node) (self : (Node → Option Motion)) (k1 : ((List Motion) → Option Motion)) : Nat → Int → (List Motion) → Option Motion
 | 0, _, _ => none
 | m1 + 1, i1, l1 => if (decide (i1 < (p_n.nodes.length : Int))) = true then
  (at? p_n.nodes i1).bind fun x1 =>
   (self x1).bind fun r1 =>
   (appO 16 l1 ([r1] : List Motion)).bind fun _ =>
   program_of_loop1 p_n self k1 m1 (IntKind.wrap .i64 (i1 + 1)) (l1 ++ ([r1] : List Motion))
  else
   k1 l1
def program_of_body (self : Node → Option Motion) (p_n : Node) : Option Motion :=
 joinK (fun (l3 : (List Motion)) =>
  if (p_n.kind == 0) = true then
   some (Motion.single p_n.step)
  else
   if (p_n.kind == 1) = true then
    some (Motion.list l3)
   else
    if (p_n.kind == 2) = true then
     (at? l3 0).bind fun x2 =>
      some (Motion.repeat_ p_n.count x2)
    else
     (at? l3 0).bind fun x3 =>
      (at? l3 1).bind fun x4 =>
      some (Motion.choice p_n.name x3 x4)) fun k1 =>
 program_of_loop1 p_n self k1 (Int.toNat ((p_n.nodes.length : Int) - 0) + 1) 0 ([] : List Motion)
def program_of : Nat → Node → Option Motion
 | 0 => fun _ => none
 | n + 1 => program_of_body (program_of n)

def program_unfolded_rng1 (q1 : ((List Step) × Int × (List Step))) (xx1 : Step) : Option (Bool × ((List Step) × Int × (List Step))) :=
 if ((q1.1.length : Int) == 64) = true then
  some (false, (q1.1, 12, []))
 else
  (appO 16 ([] : List Stroke) xx1.strokes).bind fun _ =>
   (appO 32 q1.1 ([xx1] : List Step)).bind fun _ =>
   some (true, ((q1.1 ++ ([xx1] : List Step)), q1.2.1, q1.2.2))
def program_unfolded (p_n : Node) (p_on : (List (List UInt8))) : Option ((List Step) × Int) :=
 (program_of 600 p_n).bind fun r1 =>
 (steps 600 r1 p_on).bind fun r2 =>
 (iterRun 600 (program_unfolded_rng1) r2 p_on (([] : List Step), 0, [])).bind fun r3 =>
 if r3.1 = true then
 some (r3.2.1, 0)
 else
 some (r3.2.2.2, r3.2.2.1)

def program_done_loop2 (k2 : (Int → Option (Sequence × Int))) (x1 : Step) : Nat → Int → Int → Option (Sequence × Int)
 | 0, _, _ => none
 | m2 + 1, i3, i4 => if (decide (i3 < (x1.strokes.length : Int))) = true then
  (at? x1.strokes i3).bind fun x2 =>
   program_done_loop2 k2 x1 m2 (IntKind.wrap .i64 (i3 + 1)) (if (IntKind.wrap .i64 (x2.actuator + 1)) > i4 then (IntKind.wrap .i64 (x2.actuator + 1)) else i4)
  else
   k2 i4
def program_done_loop1 (r1 : ((List Step) × Int)) (k1 : (Int → Option (Sequence × Int))) : Nat → Int → Int → Option (Sequence × Int)
 | 0, _, _ => none
 | m1 + 1, i1, i2 => if (decide (i1 < (r1.1.length : Int))) = true then
  joinK (fun (i5 : Int) =>
   program_done_loop1 r1 k1 m1 (IntKind.wrap .i64 (i1 + 1)) i5) fun k2 =>
   (at? r1.1 i1).bind fun x1 =>
   program_done_loop2 k2 x1 (Int.toNat ((x1.strokes.length : Int) - 0) + 1) 0 i2
  else
   k1 i2
def program_done (p_n : Node) (p_on : (List (List UInt8))) : Option (Sequence × Int) :=
 (program_unfolded p_n p_on).bind fun r1 =>
 if (r1.2 != 0) = true then
 some ((Sequence.mk 0 []), r1.2)
 else
 joinK (fun (i6 : Int) =>
  (sequence_Check (Sequence.mk i6 r1.1)).bind fun r2 =>
   if (r2 != 0) = true then
   some ((Sequence.mk 0 []), r2)
  else
   some ((Sequence.mk i6 r1.1), 0)) fun k1 =>
  program_done_loop1 r1 k1 (Int.toNat ((r1.1.length : Int) - 0) + 1) 0 0

def program_Sequence (p_n : Node) (p_on : (List (List UInt8))) : Option (Sequence × Int) :=
 (program_Check p_n).bind fun r1 =>
 if (r1 != 0) = true then
 some ((Sequence.mk 0 []), r1)
 else
 (program_done p_n p_on).bind fun r2 =>
  some (r2.1, r2.2)

def diagram_letter (p_a : Int) : Option (List UInt8) :=
 some ((Utf8.encode (IntKind.wrap .i32 (IntKind.wrap .i64 (65 + p_a)))).data.toList)

def slices_IndexFunc_api_Stepapi_Step_diagram_draw_1_loop1 (p_s : (List Step)) (k1 : (Option Int)) : Nat → Int → Option Int
 | 0, _ => none
 | m1 + 1, i1 => if (decide (i1 < (p_s.length : Int))) = true then
  (at? p_s i1).bind fun x1 =>
   if (x1.wait != 0) = true then
   some i1
  else
   slices_IndexFunc_api_Stepapi_Step_diagram_draw_1_loop1 p_s k1 m1 (IntKind.wrap .i64 (i1 + 1))
  else
   k1
def slices_IndexFunc_api_Stepapi_Step_diagram_draw_1 (p_s : (List Step)) : Option Int :=
 joinK (some (-1)) fun k1 =>
 slices_IndexFunc_api_Stepapi_Step_diagram_draw_1_loop1 p_s k1 (Int.toNat ((p_s.length : Int) - 0) + 1) 0

def slices_ContainsFunc_api_Stepapi_Step_diagram_draw_1 (p_s : (List Step)) : Option Bool :=
 (slices_IndexFunc_api_Stepapi_Step_diagram_draw_1 p_s).bind fun r1 =>
 some (decide (r1 ≥ 0))

def diagram_draw_loop2 (x1 : (List Cell)) (k3 : ((List UInt8) → Option (List (List UInt8)))) : Nat → Int → (List UInt8) → Option (List (List UInt8))
 | 0, _, _ => none
 | m2 + 1, i2, l3 => if (decide (i2 < (x1.length : Int))) = true then
  (at? x1 i2).bind fun x2 =>
   (guardO (decide (0 ≤ x2.first) && decide (x2.first ≤ 255))).bind fun _ =>
   (appO 1 l3 ([(UInt8.ofNat (Int.toNat x2.first))] : List UInt8)).bind fun _ =>
   (guardO (decide (0 ≤ x2.second) && decide (x2.second ≤ 255))).bind fun _ =>
   (appO 1 (l3 ++ ([(UInt8.ofNat (Int.toNat x2.first))] : List UInt8)) ([(UInt8.ofNat (Int.toNat x2.second))] : List UInt8)).bind fun _ =>
   diagram_draw_loop2 x1 k3 m2 (IntKind.wrap .i64 (i2 + 1)) ((l3 ++ ([(UInt8.ofNat (Int.toNat x2.first))] : List UInt8)) ++ ([(UInt8.ofNat (Int.toNat x2.second))] : List UInt8))
  else
   k3 l3
def diagram_draw_loop1 (k1 : ((List (List UInt8)) → Option (List (List UInt8)))) (r1 : ((List (List Cell)))) : Nat → Int → (List (List UInt8)) → Option (List (List UInt8))
 | 0, _, _ => none
 | m1 + 1, i1, l1 => if (decide (i1 < (r1.length : Int))) = true then
  joinK (fun (l8 : (List (List UInt8))) =>
   diagram_draw_loop1 k1 r1 m1 (IntKind.wrap .i64 (i1 + 1)) l8) fun k2 =>
   (at? r1 i1).bind fun x1 =>
   (diagram_letter i1).bind fun r2 =>
   (catO r2 [32, 95]).bind fun s2 =>
   (appO 1 ([] : List UInt8) s2).bind fun _ =>
   joinK (fun (l6 : (List UInt8)) =>
    (appO 16 l1 ([l6] : List (List UInt8))).bind fun _ =>
     k2 (l1 ++ ([l6] : List (List UInt8)))) fun k3 =>
   diagram_draw_loop2 x1 k3 (Int.toNat ((x1.length : Int) - 0) + 1) 0 (([] : List UInt8) ++ s2)
  else
   k1 l1
def diagram_draw_loop3 (p_s : Sequence) (k5 : ((List UInt8) → Option (List (List UInt8)))) : Nat → Int → (List UInt8) → Option (List (List UInt8))
 | 0, _, _ => none
 | m3 + 1, i3, l11 => if (decide (i3 < (p_s.steps.length : Int))) = true then
  (at? p_s.steps i3).bind fun x3 =>
   (itoa x3.wait).bind fun r4 =>
   (catO [32] r4).bind fun s4 =>
   (appO 1 l11 s4).bind fun _ =>
   diagram_draw_loop3 p_s k5 m3 (IntKind.wrap .i64 (i3 + 1)) (l11 ++ s4)
  else
   k5 l11
def diagram_draw (p_s : Sequence) : Option (List (List UInt8)) :=
 joinK (fun (l9 : (List (List UInt8))) =>
  joinK (fun (l15 : (List (List UInt8))) =>
   some l15) fun k4 =>
   (slices_ContainsFunc_api_Stepapi_Step_diagram_draw_1 p_s.steps).bind fun r3 =>
   if r3 = true then
   (appO 1 ([] : List UInt8) [84]).bind fun _ =>
    joinK (fun (l13 : (List UInt8)) =>
     (appO 16 l9 ([l13] : List (List UInt8))).bind fun _ =>
      k4 (l9 ++ ([l13] : List (List UInt8)))) fun k5 =>
    diagram_draw_loop3 p_s k5 (Int.toNat ((p_s.steps.length : Int) - 0) + 1) 0 (([] : List UInt8) ++ [84])
  else
   k4 l9) fun k1 =>
 (cellsG p_s).bind fun r1 =>
 diagram_draw_loop1 k1 r1 (Int.toNat ((r1.length : Int) - 0) + 1) 0 ([] : List (List UInt8))

def diagram_Draw (p_s : Sequence) : Option ((List (List UInt8)) × Int) :=
 (sequence_Check p_s).bind fun r1 =>
 if (r1 != 0) = true then
 some ([], r1)
 else
 (diagram_draw p_s).bind fun r2 =>
  some (r2, 0)

def slices_Equal_stringstring_loop1 (p_s1 : (List (List UInt8))) (p_s2 : (List (List UInt8))) (k1 : (Option Bool)) : Nat → Int → Option Bool
 | 0, _ => none
 | m1 + 1, i1 => if (decide (i1 < (p_s1.length : Int))) = true then
  (at? p_s1 i1).bind fun x1 =>
   (at? p_s2 i1).bind fun x2 =>
   if (!(x1 == x2)) = true then
   some false
  else
   slices_Equal_stringstring_loop1 p_s1 p_s2 k1 m1 (IntKind.wrap .i64 (i1 + 1))
  else
   k1
def slices_Equal_stringstring (p_s1 : (List (List UInt8))) (p_s2 : (List (List UInt8))) : Option Bool :=
 if ((p_s1.length : Int) != (p_s2.length : Int)) = true then
 some false
 else
 joinK (some true) fun k1 =>
  slices_Equal_stringstring_loop1 p_s1 p_s2 k1 (Int.toNat ((p_s1.length : Int) - 0) + 1) 0

def top_runMotion  : Option Bool :=
 (program_Parse [123, 32, 65, 43, 59, 32, 114, 101, 112, 101, 97, 116, 32, 50, 32, 123, 32, 66, 43, 59, 32, 66, 45, 32, 49, 48, 32, 125, 59, 32, 65, 45, 32, 125]).bind fun r1 =>
 (program_Sequence r1.1 []).bind fun r2 =>
 (diagram_Draw r2.1).bind fun r3 =>
 (schedule_Cycle r2.1 (Plant.mk ([(Travel.mk (Span.mk 5 6) (Span.mk 7 7)), (Travel.mk (Span.mk 1 2) (Span.mk 3 3))] : List Travel))).bind fun r4 =>
 (if ((IntKind.wrap .i64 ((IntKind.wrap .i64 ((IntKind.wrap .i64 (r1.2.2 + r2.2)) + r3.2)) + r4.2)) == 0) = true then (slices_Equal_stringstring r3.1 ([[65, 32, 95, 47, 45, 45, 45, 45, 45, 45, 45, 45, 45, 92, 95], [66, 32, 95, 95, 95, 47, 45, 92, 95, 47, 45, 92, 95, 95, 95], [84, 32, 48, 32, 48, 32, 49, 48, 32, 48, 32, 49, 48, 32, 48]] : List (List UInt8))).bind fun r5 =>
 some r5 else some false).bind fun c1 =>
 some (c1 && (r4.1 == (Span.mk 40 43)))

def schedule_most_int_schedule_Run_1_loop1 (p_l : (List Int)) (k1 : (Int → Option Int)) : Nat → Int → Int → Option Int
 | 0, _, _ => none
 | m1 + 1, i1, i2 => if (decide (i2 < (p_l.length : Int))) = true then
  (at? p_l i2).bind fun x1 =>
   schedule_most_int_schedule_Run_1_loop1 p_l k1 m1 (if x1 > i1 then x1 else i1) (IntKind.wrap .i64 (i2 + 1))
  else
   k1 i1
def schedule_most_int_schedule_Run_1 (p_l : (List Int)) : Option Int :=
 joinK (fun (i3 : Int) =>
  some i3) fun k1 =>
 schedule_most_int_schedule_Run_1_loop1 p_l k1 (Int.toNat ((p_l.length : Int) - 0) + 1) 0 0

def schedule_Run_loop2 (p_p : Plant) (x1 : Step) (k3 : (Option ((List Int) × Int))) (x3 : (List Int)) : Nat → Int → Option ((List Int) × Int)
 | 0, _ => none
 | m2 + 1, i3 => if (decide (i3 < (x3.length : Int))) = true then
  (at? x3 i3).bind fun x4 =>
   joinK (fun (i4 : Int) (i5 : Int) =>
    if ((decide (x4 < i4)) || (decide (x4 > i5))) = true then
     some ([], 2)
    else
     schedule_Run_loop2 p_p x1 k3 x3 m2 (IntKind.wrap .i64 (i3 + 1))) fun k4 =>
   (at? x1.strokes i3).bind fun x5 =>
   (schedule_way p_p x5).bind fun r2 =>
   k4 r2.low r2.high
  else
   k3
def schedule_Run_loop1 (p_s : Sequence) (p_times : (List (List Int))) (k1 : ((List Int) → Option ((List Int) × Int))) (p_p : Plant) : Nat → Int → Int → (List Int) → Option ((List Int) × Int)
 | 0, _, _, _ => none
 | m1 + 1, i1, i2, l1 => if (decide (i2 < (p_s.steps.length : Int))) = true then
  joinK (fun (i6 : Int) (l3 : (List Int)) =>
   schedule_Run_loop1 p_s p_times k1 p_p m1 i6 (IntKind.wrap .i64 (i2 + 1)) l3) fun k2 =>
   (at? p_s.steps i2).bind fun x1 =>
   (at? p_times i2).bind fun x2 =>
   if ((x2.length : Int) != (x1.strokes.length : Int)) = true then
   some ([], 8)
  else
   joinK ((at? p_times i2).bind fun x6 =>
    (schedule_most_int_schedule_Run_1 x6).bind fun r3 =>
    (appO 8 l1 ([(IntKind.wrap .i64 (i1 + (IntKind.wrap .i64 (r3 + x1.wait))))] : List Int)).bind fun _ =>
    k2 (IntKind.wrap .i64 (i1 + (IntKind.wrap .i64 (r3 + x1.wait)))) (l1 ++ ([(IntKind.wrap .i64 (i1 + (IntKind.wrap .i64 (r3 + x1.wait))))] : List Int))) fun k3 =>
    (at? p_times i2).bind fun x3 =>
    schedule_Run_loop2 p_p x1 k3 x3 (Int.toNat ((x3.length : Int) - 0) + 1) 0
  else
   k1 l1
def schedule_Run (p_s : Sequence) (p_p : Plant) (p_times : (List (List Int))) : Option ((List Int) × Int) :=
 (schedule_Check p_s p_p).bind fun r1 =>
 if (r1 != 0) = true then
 some ([], r1)
 else
 if ((p_times.length : Int) != (p_s.steps.length : Int)) = true then
  some ([], 8)
 else
  joinK (fun (l4 : (List Int)) =>
   some (l4, 0)) fun k1 =>
   schedule_Run_loop1 p_s p_times k1 p_p (Int.toNat ((p_s.steps.length : Int) - 0) + 1) 0 0 ([] : List Int)

def diagram_stretched_loop2 (p_counts : (List Int)) (x1 : (List Cell)) (k3 : ((List UInt8) → Option (List (List UInt8)))) : Nat → Int → (List UInt8) → Option (List (List UInt8))
 | 0, _, _ => none
 | m2 + 1, i2, l3 => if (decide (i2 < (x1.length : Int))) = true then
  (at? x1 i2).bind fun x2 =>
   (at? p_counts i2).bind fun x3 =>
   (repS ((Utf8.encode (IntKind.wrap .i32 x2.first)).data.toList) x3).bind fun r3 =>
   (appO 1 l3 r3).bind fun _ =>
   (guardO (decide (0 ≤ x2.second) && decide (x2.second ≤ 255))).bind fun _ =>
   (appO 1 (l3 ++ r3) ([(UInt8.ofNat (Int.toNat x2.second))] : List UInt8)).bind fun _ =>
   diagram_stretched_loop2 p_counts x1 k3 m2 (IntKind.wrap .i64 (i2 + 1)) ((l3 ++ r3) ++ ([(UInt8.ofNat (Int.toNat x2.second))] : List UInt8))
  else
   k3 l3
def diagram_stretched_loop1 (k1 : ((List (List UInt8)) → Option (List (List UInt8)))) (r1 : ((List (List Cell)))) (p_counts : (List Int)) : Nat → Int → (List (List UInt8)) → Option (List (List UInt8))
 | 0, _, _ => none
 | m1 + 1, i1, l1 => if (decide (i1 < (r1.length : Int))) = true then
  joinK (fun (l8 : (List (List UInt8))) =>
   diagram_stretched_loop1 k1 r1 p_counts m1 (IntKind.wrap .i64 (i1 + 1)) l8) fun k2 =>
   (at? r1 i1).bind fun x1 =>
   (diagram_letter i1).bind fun r2 =>
   (catO r2 [32, 95]).bind fun s2 =>
   (appO 1 ([] : List UInt8) s2).bind fun _ =>
   joinK (fun (l6 : (List UInt8)) =>
    (appO 16 l1 ([l6] : List (List UInt8))).bind fun _ =>
     k2 (l1 ++ ([l6] : List (List UInt8)))) fun k3 =>
   diagram_stretched_loop2 p_counts x1 k3 (Int.toNat ((x1.length : Int) - 0) + 1) 0 (([] : List UInt8) ++ s2)
  else
   k1 l1
def diagram_stretched (p_s : Sequence) (p_counts : (List Int)) : Option (List (List UInt8)) :=
 joinK (fun (l9 : (List (List UInt8))) =>
  some l9) fun k1 =>
 (cellsG p_s).bind fun r1 =>
 diagram_stretched_loop1 k1 r1 p_counts (Int.toNat ((r1.length : Int) - 0) + 1) 0 ([] : List (List UInt8))

def diagram_Scale_loop1 (p_times : (List Int)) (k1 : (Bool → Option ((List (List UInt8)) × Int))) (k2 : (Option ((List (List UInt8)) × Int))) (p_unit : Int) : Nat → Int → Option ((List (List UInt8)) × Int)
 | 0, _ => none
 | m1 + 1, i1 => if (decide (i1 < (p_times.length : Int))) = true then
  (at? p_times i1).bind fun x1 =>
   if ((decide (x1 < 0)) || (decide (x1 > 1000000))) = true then
   k1 (((decide (i1 ≥ 0)) || (decide (p_unit < 1))) || (decide (p_unit > 1000000)))
  else
   diagram_Scale_loop1 p_times k1 k2 p_unit m1 (IntKind.wrap .i64 (i1 + 1))
  else
   k2
def diagram_Scale_loop2 (p_times : (List Int)) (p_unit : Int) (k3 : (Int → (List Int) → Option ((List (List UInt8)) × Int))) : Nat → Int → Int → (List Int) → Option ((List (List UInt8)) × Int)
 | 0, _, _, _ => none
 | m2 + 1, i2, i3, l1 => if (decide (i3 < (p_times.length : Int))) = true then
  (at? p_times i3).bind fun x2 =>
   (guardO (p_unit != 0)).bind fun _ =>
   (appO 8 l1 ([(if (IntKind.wrap .i64 (Int.tdiv (IntKind.wrap .i64 ((IntKind.wrap .i64 (x2 + p_unit)) - 1)) p_unit)) > 1 then (IntKind.wrap .i64 (Int.tdiv (IntKind.wrap .i64 ((IntKind.wrap .i64 (x2 + p_unit)) - 1)) p_unit)) else 1)] : List Int)).bind fun _ =>
   diagram_Scale_loop2 p_times p_unit k3 m2 (IntKind.wrap .i64 (i2 + (IntKind.wrap .i64 ((if (IntKind.wrap .i64 (Int.tdiv (IntKind.wrap .i64 ((IntKind.wrap .i64 (x2 + p_unit)) - 1)) p_unit)) > 1 then (IntKind.wrap .i64 (Int.tdiv (IntKind.wrap .i64 ((IntKind.wrap .i64 (x2 + p_unit)) - 1)) p_unit)) else 1) + 1)))) (IntKind.wrap .i64 (i3 + 1)) (l1 ++ ([(if (IntKind.wrap .i64 (Int.tdiv (IntKind.wrap .i64 ((IntKind.wrap .i64 (x2 + p_unit)) - 1)) p_unit)) > 1 then (IntKind.wrap .i64 (Int.tdiv (IntKind.wrap .i64 ((IntKind.wrap .i64 (x2 + p_unit)) - 1)) p_unit)) else 1)] : List Int))
  else
   k3 i2 l1
def diagram_Scale (p_s : Sequence) (p_times : (List Int)) (p_unit : Int) : Option ((List (List UInt8)) × Int) :=
 (sequence_Check p_s).bind fun r1 =>
 if (r1 != 0) = true then
 some ([], r1)
 else
 if ((p_times.length : Int) != (p_s.steps.length : Int)) = true then
  some ([], 8)
 else
  joinK (fun (c1 : Bool) =>
   if c1 = true then
    some ([], 2)
   else
    joinK (fun (i4 : Int) (l3 : (List Int)) =>
     if (decide (i4 > 4096)) = true then
      some ([], 17)
     else
      (diagram_stretched p_s l3).bind fun r2 =>
       some (r2, 0)) fun k3 =>
     diagram_Scale_loop2 p_times p_unit k3 (Int.toNat ((p_times.length : Int) - 0) + 1) 3 0 ([] : List Int)) fun k1 =>
   joinK (k1 (((decide (((-1) : Int) ≥ 0)) || (decide (p_unit < 1))) || (decide (p_unit > 1000000)))) fun k2 =>
   diagram_Scale_loop1 p_times k1 k2 p_unit (Int.toNat ((p_times.length : Int) - 0) + 1) 0

def slices_IndexFunc_stringstring_diagram_given_1_loop1 (p_s : (List (List UInt8))) (k1 : (Option Int)) : Nat → Int → Option Int
 | 0, _ => none
 | m1 + 1, i1 => if (decide (i1 < (p_s.length : Int))) = true then
  (at? p_s i1).bind fun x1 =>
   if (decide ((x1.length : Int) > 4096)) = true then
   some i1
  else
   slices_IndexFunc_stringstring_diagram_given_1_loop1 p_s k1 m1 (IntKind.wrap .i64 (i1 + 1))
  else
   k1
def slices_IndexFunc_stringstring_diagram_given_1 (p_s : (List (List UInt8))) : Option Int :=
 joinK (some (-1)) fun k1 =>
 slices_IndexFunc_stringstring_diagram_given_1_loop1 p_s k1 (Int.toNat ((p_s.length : Int) - 0) + 1) 0

def slices_ContainsFunc_stringstring_diagram_given_1 (p_s : (List (List UInt8))) : Option Bool :=
 (slices_IndexFunc_stringstring_diagram_given_1 p_s).bind fun r1 =>
 some (decide (r1 ≥ 0))

def diagram_given (p_l : (List (List UInt8))) (p_most : Int) : Option Int :=
 if (decide ((p_l.length : Int) > p_most)) = true then
 some 5
 else
 (slices_ContainsFunc_stringstring_diagram_given_1 p_l).bind fun r1 =>
  if r1 = true then
  some 17
 else
  some 0

def slices_Index_bytebyte_loop1 (p_s : (List Int)) (p_v : Int) (k1 : (Option Int)) : Nat → Int → Option Int
 | 0, _ => none
 | m1 + 1, i1 => if (decide (i1 < (p_s.length : Int))) = true then
  (at? p_s i1).bind fun x1 =>
   if (p_v == x1) = true then
   some i1
  else
   slices_Index_bytebyte_loop1 p_s p_v k1 m1 (IntKind.wrap .i64 (i1 + 1))
  else
   k1
def slices_Index_bytebyte (p_s : (List Int)) (p_v : Int) : Option Int :=
 joinK (some (-1)) fun k1 =>
 slices_Index_bytebyte_loop1 p_s p_v k1 (Int.toNat ((p_s.length : Int) - 0) + 1) 0

def diagram_Unscale_loop2 (p_l : (List (List UInt8))) (n1 : Nat) (k2 : ((List Stroke) → Option (Sequence × (List Int) × Int))) : Nat → Int → (List Stroke) → Option (Sequence × (List Int) × Int)
 | 0, _, _ => none
 | m2 + 1, i2, l3 => if (decide (i2 < (p_l.length : Int))) = true then
  joinK (fun (l5 : (List Stroke)) =>
   diagram_Unscale_loop2 p_l n1 k2 m2 (IntKind.wrap .i64 (i2 + 1)) l5) fun k3 =>
   (at? p_l i2).bind fun x2 =>
   if (decide ((n1 : Int) ≥ (x2.length : Int))) = true then
   k3 l3
  else
   (byteAt x2 (n1 : Int)).bind fun b6 =>
    (slices_Index_bytebyte diag_going (b6.toNat : Int)).bind fun r2 =>
    if (decide (r2 ≥ 0)) = true then
    (appO 16 l3 ([(Stroke.mk i2 (r2 == 1))] : List Stroke)).bind fun _ =>
     k3 (l3 ++ ([(Stroke.mk i2 (r2 == 1))] : List Stroke))
   else
    k3 l3
  else
   k2 l3
def diagram_Unscale_loop1 (p_l : (List (List UInt8))) (k1 : ((List Int) → (List Step) → Option (Sequence × (List Int) × Int))) (x1 : (List UInt8)) : Nat → Int → (List Int) → Nat → (List Step) → Option (Sequence × (List Int) × Int)
 | 0, _, _, _, _ => none
 | m1 + 1, i1, l1, n1, l2 => if (decide (n1 < x1.length)) = true then
  if ((decide ((n1 : Int) < 3)) || (decide ((l2.length : Int) > 64))) = true then
   diagram_Unscale_loop1 p_l k1 x1 m1 i1 l1 (n1 + (decW x1 n1).2) l2
  else
   joinK (fun (l6 : (List Stroke)) =>
    if (decide ((l6.length : Int) > 0)) = true then
     joinK (fun (l8 : (List Step)) =>
      diagram_Unscale_loop1 p_l k1 x1 m1 (IntKind.wrap .i64 (i1 + 1)) l1 (n1 + (decW x1 n1).2) l8) fun k4 =>
      if (i1 == 0) = true then
      (appO 32 l2 ([(Step.mk l6 0)] : List Step)).bind fun _ =>
       k4 (l2 ++ ([(Step.mk l6 0)] : List Step))
     else
      k4 l2
    else
     if (decide (i1 > 0)) = true then
      (appO 8 l1 ([i1] : List Int)).bind fun _ =>
       diagram_Unscale_loop1 p_l k1 x1 m1 0 (l1 ++ ([i1] : List Int)) (n1 + (decW x1 n1).2) l2
     else
      diagram_Unscale_loop1 p_l k1 x1 m1 i1 l1 (n1 + (decW x1 n1).2) l2) fun k2 =>
    diagram_Unscale_loop2 p_l n1 k2 (Int.toNat ((p_l.length : Int) - 0) + 1) 0 ([] : List Stroke)
  else
   k1 l1 l2
def diagram_Unscale (p_l : (List (List UInt8))) : Option (Sequence × (List Int) × Int) :=
 (diagram_given p_l 6).bind fun r1 =>
 if (r1 != 0) = true then
 some ((Sequence.mk 0 []), [], r1)
 else
 joinK (fun (l10 : (List Int)) (l11 : (List Step)) =>
  (sequence_Check (Sequence.mk (p_l.length : Int) l11)).bind fun r3 =>
   (if ((r3 != 0) || ((l10.length : Int) != (l11.length : Int))) = true then some true else (diagram_stretched (Sequence.mk (p_l.length : Int) l11) l10).bind fun r4 =>
   (slices_Equal_stringstring r4 p_l).bind fun r5 =>
   some (!r5)).bind fun c1 =>
   if c1 = true then
   some ((Sequence.mk 0 []), [], 4)
  else
   some ((Sequence.mk (p_l.length : Int) l11), l10, 0)) fun k1 =>
  if (decide ((p_l.length : Int) > 0)) = true then
  (at? p_l 0).bind fun x1 =>
   diagram_Unscale_loop1 p_l k1 x1 (x1.length - 0 + 1) 0 ([] : List Int) 0 ([] : List Step)
 else
  k1 ([] : List Int) ([] : List Step)

def top_TopMotionsScale_loop1 (r5 : ((List Int) × Int)) (k1 : ((List Int) → Option Bool)) : Nat → Int → Int → (List Int) → Option Bool
 | 0, _, _, _ => none
 | m1 + 1, i1, i2, l1 => if (decide (i2 < (r5.1.length : Int))) = true then
  (at? r5.1 i2).bind fun x2 =>
   (appO 8 l1 ([(IntKind.wrap .i64 (x2 - i1))] : List Int)).bind fun _ =>
   top_TopMotionsScale_loop1 r5 k1 m1 x2 (IntKind.wrap .i64 (i2 + 1)) (l1 ++ ([(IntKind.wrap .i64 (x2 - i1))] : List Int))
  else
   k1 l1
def top_TopMotionsScale_loop2 (l3 : (List Int)) (r9 : (Sequence × (List Int) × Int)) (k2 : (Option Bool)) : Nat → Int → Option Bool
 | 0, _ => none
 | m2 + 1, i3 => if (decide (i3 < (l3.length : Int))) = true then
  (at? l3 i3).bind fun x3 =>
   (at? r9.2.1 i3).bind fun x4 =>
   if (x4 != (if (1 : Int) > (IntKind.wrap .i64 (Int.tdiv (IntKind.wrap .i64 (x3 + 19)) 20)) then 1 else (IntKind.wrap .i64 (Int.tdiv (IntKind.wrap .i64 (x3 + 19)) 20)))) = true then
   some false
  else
   top_TopMotionsScale_loop2 l3 r9 k2 m2 (IntKind.wrap .i64 (i3 + 1))
  else
   k2
def top_TopMotionsScale (p_s : Sequence) (p_p : Plant) (p_times : (List (List Int))) : Option Bool :=
 (ref17_Few p_s p_p).bind fun r1 =>
 (if (!r1) = true then some true else (ref17_Check p_s p_p).bind fun r2 =>
 some (r2 != 0)).bind fun c1 =>
 (if (c1 || (decide ((p_s.steps.length : Int) > 10))) = true then some true else (ref17_Chosen p_s p_p p_times).bind fun r3 =>
 some (r3 != 0)).bind fun c2 =>
 if c2 = true then
 (top_runMotion).bind fun r4 =>
  some r4
 else
 (schedule_Run p_s p_p p_times).bind fun r5 =>
  (schedule_Cycle p_s p_p).bind fun r6 =>
  if (((IntKind.wrap .i64 (r5.2 + r6.2)) != 0) || ((r5.1.length : Int) != (p_s.steps.length : Int))) = true then
  some false
 else
  (at? r5.1 (IntKind.wrap .i64 ((r5.1.length : Int) - 1))).bind fun x1 =>
   if ((decide (x1 < r6.1.low)) || (decide (x1 > r6.1.high))) = true then
   some false
  else
   if (decide (x1 > 4000)) = true then
    (top_runMotion).bind fun r7 =>
     some r7
   else
    joinK (fun (l3 : (List Int)) =>
     (diagram_Scale p_s l3 20).bind fun r8 =>
      (diagram_Unscale r8.1).bind fun r9 =>
      if (((IntKind.wrap .i64 (r8.2 + r9.2.2)) != 0) || ((r9.2.1.length : Int) != (l3.length : Int))) = true then
      some false
     else
      joinK ((top_runMotion).bind fun r10 =>
       some r10) fun k2 =>
       top_TopMotionsScale_loop2 l3 r9 k2 (Int.toNat ((l3.length : Int) - 0) + 1) 0) fun k1 =>
     top_TopMotionsScale_loop1 r5 k1 (Int.toNat ((r5.1.length : Int) - 0) + 1) 0 0 ([] : List Int)

def strings_HasPrefix (p_s : (List UInt8)) (p_prefix : (List UInt8)) : Option Bool :=
 (internal_stringslite_HasPrefix p_s p_prefix).bind fun r1 =>
 some r1

end Go.Proofs.YtkgijoddkibapaaGreatDoor.W
