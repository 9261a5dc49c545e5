import Derived.Test.YtgpfgnpdbmbknaaGreatDoorTypes
import Derived.Test.YtgpfgnpdbmbknaaGreatDoorExt
import Derived.Test.YtgpfgnpdbmbknaaGreatDoorSort
set_option linter.unusedVariables false
set_option maxRecDepth 100000
set_option maxHeartbeats 4000000
namespace Go.Proofs.YtgpfgnpdbmbknaaGreatDoor.W
open Go Go.RowKit
def slices_Index_stringstring_loop1 (p_s : (List (List UInt8))) (p_v : (List UInt8)) (k1 : (Option Int)) : Nat → Int → Option Int
 | 0, _ => none
 | m1 + 1, i1 => if (decide (i1 < (p_s.length : Int))) = true then
  (at? p_s i1).bind fun x1 =>
   if (p_v == x1) = true then
   some i1
  else
   slices_Index_stringstring_loop1 p_s p_v k1 m1 (IntKind.wrap .i64 (i1 + 1))
  else
   k1
def slices_Index_stringstring (p_s : (List (List UInt8))) (p_v : (List UInt8)) : Option Int :=
 joinK (some (-1)) fun k1 =>
 slices_Index_stringstring_loop1 p_s p_v k1 (Int.toNat ((p_s.length : Int) - 0) + 1) 0

def slices_Contains_stringstring (p_s : (List (List UInt8))) (p_v : (List UInt8)) : Option Bool :=
 (slices_Index_stringstring p_s p_v).bind fun r1 =>
 some (decide (r1 ≥ 0))

def program_choice_taken (p_m : MChoice) (p_on : (List (List UInt8))) : Option Motion :=
 (slices_Contains_stringstring p_on p_m.name).bind fun r1 =>
 if r1 = true then
 some p_m.then_
 else
 some p_m.other

def steps : Nat → Motion → List (List UInt8) → Option Motion
 | 0 => fun _ _ => none
 | n + 1 => fun m on => if m.isChoice = true then (program_choice_taken (MChoice.mk m.nm m.thn m.oth) on).bind fun r => steps n r on else some m

def program_single_steps_1 {σ : Type} (step : σ → Step → Option (Bool × σ)) (p_m : MSingle) (z : σ) : Option (Bool × σ) :=
 (step z p_m.step).bind fun r1 =>
 if r1.1 = true then
 some (true, r1.2)
 else
 some (false, r1.2)

def program_list_steps_1_rng2 {σ : Type} (step : (σ → Step → Option (Bool × σ))) (q1 : σ) (xx1 : Step) : Option (Bool × σ) :=
 (step q1 xx1).bind fun r2 =>
  if r2.1 = true then
  some (true, r2.2)
 else
  some (false, r2.2)
def program_list_steps_1_loop1 {σ : Type} (p_m : MList) (p_on : (List (List UInt8))) (self : ((σ → Step → Option (Bool × σ)) → Motion → (List (List UInt8)) → σ → Option (Bool × σ))) (step : (σ → Step → Option (Bool × σ))) : Nat → σ → Int → Option (Bool × σ)
 | 0, _, _ => none
 | m1 + 1, z1, i1 => if (decide (i1 < (p_m.parts.length : Int))) = true then
  (at? p_m.parts i1).bind fun x1 =>
   (steps 600 x1 p_on).bind fun r1 =>
   (self (program_list_steps_1_rng2 step) r1 p_on z1).bind fun r3 =>
   if r3.1 = true then
   program_list_steps_1_loop1 p_m p_on self step m1 r3.2 (IntKind.wrap .i64 (i1 + 1))
  else
   some (false, r3.2)
  else
   some (true, z1)
def program_list_steps_1 {σ : Type} (step : σ → Step → Option (Bool × σ)) (self : (σ → Step → Option (Bool × σ)) → Motion → (List (List UInt8)) → σ → Option (Bool × σ)) (p_m : MList) (p_on : (List (List UInt8))) (z : σ) : Option (Bool × σ) :=
 program_list_steps_1_loop1 p_m p_on self step (Int.toNat ((p_m.parts.length : Int) - 0) + 1) z 0

def program_repeat_steps_1_rng2 {σ : Type} (step : (σ → Step → Option (Bool × σ))) (q1 : σ) (xx1 : Step) : Option (Bool × σ) :=
 (step q1 xx1).bind fun r2 =>
  if r2.1 = true then
  some (true, r2.2)
 else
  some (false, r2.2)
def program_repeat_steps_1_loop1 {σ : Type} (p_m : MRepeat) (p_on : (List (List UInt8))) (self : ((σ → Step → Option (Bool × σ)) → Motion → (List (List UInt8)) → σ → Option (Bool × σ))) (step : (σ → Step → Option (Bool × σ))) : Nat → σ → Int → Option (Bool × σ)
 | 0, _, _ => none
 | m1 + 1, z1, i1 => if (decide (i1 < p_m.count)) = true then
  (steps 600 p_m.part p_on).bind fun r1 =>
   (self (program_repeat_steps_1_rng2 step) r1 p_on z1).bind fun r3 =>
   if r3.1 = true then
   program_repeat_steps_1_loop1 p_m p_on self step m1 r3.2 (IntKind.wrap .i64 (i1 + 1))
  else
   some (false, r3.2)
  else
   some (true, z1)
def program_repeat_steps_1 {σ : Type} (step : σ → Step → Option (Bool × σ)) (self : (σ → Step → Option (Bool × σ)) → Motion → (List (List UInt8)) → σ → Option (Bool × σ)) (p_m : MRepeat) (p_on : (List (List UInt8))) (z : σ) : Option (Bool × σ) :=
 program_repeat_steps_1_loop1 p_m p_on self step (Int.toNat (p_m.count - 0) + 1) z 0

def iterRun {σ : Type} : Nat → (σ → Step → Option (Bool × σ)) → Motion → List (List UInt8) → σ → Option (Bool × σ)
 | 0 => fun _ _ _ _ => none
 | n + 1 => fun step m on z => if m.isSingle = true then program_single_steps_1 step (MSingle.mk m.stp) z else if m.isList = true then program_list_steps_1 step (iterRun n) (MList.mk m.prts) on z else if m.isRepeat = true then program_repeat_steps_1 step (iterRun n) (MRepeat.mk m.cnt m.prt) on z else none

def program_preorder_1_1_loop1 {σ : Type} (p_n : Node) (p_depth : Int) (self : (Node → Int → σ → Option (Bool × σ))) (k1 : (σ → Option (Bool × σ))) : Nat → σ → Int → Option (Bool × σ)
 | 0, _, _ => none
 | m1 + 1, z1, i1 => if (decide (i1 < (p_n.nodes.length : Int))) = true then
  (at? p_n.nodes i1).bind fun x1 =>
   if (decide (p_depth ≤ 16)) = true then
   (self x1 (IntKind.wrap .i64 (p_depth + 1)) z1).bind fun r2 =>
    if r2.1 = true then
    program_preorder_1_1_loop1 p_n p_depth self k1 m1 r2.2 (IntKind.wrap .i64 (i1 + 1))
   else
    some (false, r2.2)
  else
   program_preorder_1_1_loop1 p_n p_depth self k1 m1 z1 (IntKind.wrap .i64 (i1 + 1))
  else
   k1 z1
def program_preorder_1_1_body {σ : Type} (step : σ → (Int × Node) → Option (Bool × σ)) (self : Node → Int → σ → Option (Bool × σ)) (p_n : Node) (p_depth : Int) (z : σ) : Option (Bool × σ) :=
 (step z (p_depth, p_n)).bind fun r1 =>
 if r1.1 = true then
 joinK (fun (z2 : σ) =>
  some (true, z2)) fun k1 =>
  program_preorder_1_1_loop1 p_n p_depth self k1 (p_n.nodes.length + 1) r1.2 0
 else
 some (false, r1.2)
def program_preorder_1_1 {σ : Type} (step : σ → (Int × Node) → Option (Bool × σ)) : Nat → Node → Int → σ → Option (Bool × σ)
 | 0 => fun _ _ _ => none
 | n + 1 => program_preorder_1_1_body step (program_preorder_1_1 step n)

def program_preorder_1 {σ : Type} (step : σ → (Int × Node) → Option (Bool × σ)) (p_n : Node) (z : σ) : Option (Bool × σ) :=
 (program_preorder_1_1 step 600 p_n 1 z).bind fun r1 =>
 if r1.1 = true then
 some (true, r1.2)
 else
 some (false, r1.2)

def program_light_rng1 (q1 : Int) (xx1 : (Int × Node)) : Option (Bool × Int) :=
 if ((decide ((IntKind.wrap .i64 (q1 + 1)) > 256)) || (decide (xx1.1 > 16))) = true then
  some (false, (IntKind.wrap .i64 (q1 + 1)))
 else
  some (true, (IntKind.wrap .i64 (q1 + 1)))
def program_light (p_n : Node) : Option Bool :=
 (program_preorder_1 (program_light_rng1) p_n 0).bind fun r1 =>
 if r1.1 = true then
 some true
 else
 some false

def stroke_known (p_n : Int) : Option Bool :=
 some ((decide (p_n ≥ 0)) && (decide (p_n < 6)))

def stroke_CheckStep_loop1 (p_x : Step) (k1 : (Option Int)) : Nat → Int → Int → Option Int
 | 0, _, _ => none
 | m1 + 1, i1, i2 => if (decide (i2 < (p_x.strokes.length : Int))) = true then
  (at? p_x.strokes i2).bind fun x1 =>
   (stroke_known x1.actuator).bind fun r1 =>
   if (!r1) = true then
   some 2
  else
   if (x1.actuator == i1) = true then
    some 7
   else
    if (decide (x1.actuator < i1)) = true then
     some 9
    else
     stroke_CheckStep_loop1 p_x k1 m1 x1.actuator (IntKind.wrap .i64 (i2 + 1))
  else
   k1
def stroke_CheckStep (p_x : Step) : Option Int :=
 if ((p_x.strokes.length : Int) == 0) = true then
 some 13
 else
 if (decide ((p_x.strokes.length : Int) > 6)) = true then
  some 5
 else
  joinK (if ((decide (p_x.wait < 0)) || (decide (p_x.wait > 1000000))) = true then
   some 2
  else
   some 0) fun k1 =>
   stroke_CheckStep_loop1 p_x k1 (Int.toNat ((p_x.strokes.length : Int) - 0) + 1) (-1) 0

def lexer_class_loop1 (p_b : Int) (k1 : (Option Int)) : Nat → Int → Option Int
 | 0, _ => none
 | m1 + 1, i1 => if (decide (i1 < 6)) = true then
  (at? lexer_ranges i1).bind fun x1 =>
   if ((decide (x1.a0 ≤ p_b)) && (decide (p_b ≤ x1.a1))) = true then
   some (IntKind.wrap .i64 x1.a2)
  else
   lexer_class_loop1 p_b k1 m1 (IntKind.wrap .i64 (i1 + 1))
  else
   k1
def lexer_class (p_b : Int) : Option Int :=
 joinK ((idxB [43, 45, 42, 47, 40, 41, 91, 93, 123, 125, 60, 62, 61, 44, 59, 58, 124, 38, 33, 35, 46] p_b).bind fun r1 =>
 if (decide (r1 ≥ 0)) = true then
 some 4
 else
 some 0) fun k1 =>
 lexer_class_loop1 p_b k1 (Int.toNat (6 - 0) + 1) 0

def lexer_run_loop2 (p_s : (List UInt8)) (p_classes : (List Int)) (i1 : Int) (k3 : (Bool → Option Int)) : Nat → Bool → Int → Option Int
 | 0, _, _ => none
 | m2 + 1, c1, i2 => if (decide (i2 < (p_classes.length : Int))) = true then
  (at? p_classes i2).bind fun x1 =>
   (if c1 = true then some true else (byteAt p_s i1).bind fun b1 =>
   (lexer_class (b1.toNat : Int)).bind fun r1 =>
   some (r1 == x1)).bind fun c2 =>
   lexer_run_loop2 p_s p_classes i1 k3 m2 c2 (IntKind.wrap .i64 (i2 + 1))
  else
   k3 c1
def lexer_run_loop1 (p_s : (List UInt8)) (p_classes : (List Int)) (k1 : (Option Int)) : Nat → Int → Option Int
 | 0, _ => none
 | m1 + 1, i1 => if (decide (i1 < (p_s.length : Int))) = true then
  joinK (lexer_run_loop1 p_s p_classes k1 m1 (IntKind.wrap .i64 (i1 + 1))) fun k2 =>
   joinK (fun (c3 : Bool) =>
    if (!c3) = true then
     some i1
    else
     k2) fun k3 =>
   lexer_run_loop2 p_s p_classes i1 k3 (Int.toNat ((p_classes.length : Int) - 0) + 1) false 0
  else
   k1
def lexer_run (p_s : (List UInt8)) (p_classes : (List Int)) : Option Int :=
 joinK (some (p_s.length : Int)) fun k1 =>
 lexer_run_loop1 p_s p_classes k1 (Int.toNat ((p_s.length : Int) - 0) + 1) 0

def lexer_Word (p_s : (List UInt8)) : Option Int :=
 (if (p_s == []) = true then some true else (byteAt p_s 0).bind fun b1 =>
 (lexer_class (b1.toNat : Int)).bind fun r1 =>
 some (r1 != 1)).bind fun c1 =>
 (if c1 = true then some true else (lexer_run p_s ([1, 2, 3] : List Int)).bind fun r2 =>
 some (r2 != (p_s.length : Int))).bind fun c2 =>
 if c2 = true then
 some 3
 else
 if (decide ((p_s.length : Int) > 24)) = true then
  some 17
 else
  some 0

def program_alone (p_n : Node) : Option Int :=
 joinK (some 0) fun k1 =>
 if (p_n.kind == 0) = true then
 if (((decide ((p_n.nodes.length : Int) > 0)) || (p_n.count != 0)) || (!(p_n.name == []))) = true then
  some 3
 else
  (stroke_CheckStep p_n.step).bind fun r1 =>
   some r1
 else
 if (p_n.kind == 1) = true then
  if (((((p_n.nodes.length : Int) == 0) || ((decide ((p_n.step.strokes.length : Int) > 0)) || (p_n.step.wait != 0))) || (p_n.count != 0)) || (!(p_n.name == []))) = true then
   some 3
  else
   k1
 else
  if (p_n.kind == 2) = true then
   if ((((p_n.nodes.length : Int) != 1) || ((decide ((p_n.step.strokes.length : Int) > 0)) || (p_n.step.wait != 0))) || (!(p_n.name == []))) = true then
    some 3
   else
    if ((decide (p_n.count < 1)) || (decide (p_n.count > 64))) = true then
     some 2
    else
     k1
  else
   if (p_n.kind == 3) = true then
    if ((((p_n.nodes.length : Int) != 2) || ((decide ((p_n.step.strokes.length : Int) > 0)) || (p_n.step.wait != 0))) || (p_n.count != 0)) = true then
     some 3
    else
     (lexer_Word p_n.name).bind fun r2 =>
      some r2
   else
    some 1

def program_Check_rng1 (q1 : Int) (xx1 : (Int × Node)) : Option (Bool × Int) :=
 (program_alone xx1.2).bind fun r2 =>
  if (r2 != 0) = true then
  some (false, r2)
 else
  some (true, q1)
def program_Check (p_n : Node) : Option Int :=
 (program_light p_n).bind fun r1 =>
 if (!r1) = true then
 some 5
 else
 (program_preorder_1 (program_Check_rng1) p_n 0).bind fun r3 =>
  if r3.1 = true then
  some 0
 else
  some r3.2

def lexer_Number (p_s : (List UInt8)) : Option Int :=
 (if (p_s == []) = true then some true else (lexer_run p_s ([2] : List Int)).bind fun r1 =>
 some (r1 != (p_s.length : Int))).bind fun c1 =>
 (if c1 = true then some true else (byteAt p_s 0).bind fun b2 =>
 some (((b2.toNat : Int) == 48) && (!(p_s == [48])))).bind fun c2 =>
 if c2 = true then
 some 3
 else
 if (decide ((p_s.length : Int) > 7)) = true then
  some 17
 else
  some 0

def lexer_Scan_loop1 (p_text : (List UInt8)) (k1 : ((List Token) → Option ((List Token) × Int × Int))) : Nat → Int → (List Token) → Option ((List Token) × Int × Int)
 | 0, _, _ => none
 | m1 + 1, i1, l2 => if (decide (i1 < (p_text.length : Int))) = true then
  (byteAt p_text i1).bind fun b10 =>
   (lexer_class (b10.toNat : Int)).bind fun r1 =>
   if (r1 == 5) = true then
   lexer_Scan_loop1 p_text k1 m1 (IntKind.wrap .i64 (i1 + 1)) l2
  else
   if (r1 == 0) = true then
    if ((4 : Int) != 0) = true then
     some ([], i1, 4)
    else
     (appO 32 l2 ([(Token.mk 0 [] i1)] : List Token)).bind fun _ =>
      some ((l2 ++ ([(Token.mk 0 [] i1)] : List Token)), 0, 0)
   else
    if (r1 == 1) = true then
     (cut p_text i1 (p_text.length : Int)).bind fun s1 =>
      (lexer_run s1 ([1, 2, 3] : List Int)).bind fun r2 =>
      (cut p_text i1 (IntKind.wrap .i64 (i1 + (if r2 > 1 then r2 else 1)))).bind fun s2 =>
      (lexer_Word s2).bind fun r3 =>
      if (r3 != 0) = true then
      some ([], i1, r3)
     else
      (appO 32 l2 ([(Token.mk 0 s2 i1)] : List Token)).bind fun _ =>
       if (r3 != 0) = true then
       some ((l2 ++ ([(Token.mk 0 s2 i1)] : List Token)), 0, 0)
      else
       lexer_Scan_loop1 p_text k1 m1 (IntKind.wrap .i64 (i1 + (if r2 > 1 then r2 else 1))) (l2 ++ ([(Token.mk 0 s2 i1)] : List Token))
    else
     if (r1 == 2) = true then
      (cut p_text i1 (p_text.length : Int)).bind fun s3 =>
       (lexer_run s3 ([2] : List Int)).bind fun r4 =>
       (cut p_text i1 (IntKind.wrap .i64 (i1 + (if r4 > 1 then r4 else 1)))).bind fun s4 =>
       (lexer_Number s4).bind fun r5 =>
       if (r5 != 0) = true then
       some ([], i1, r5)
      else
       (appO 32 l2 ([(Token.mk 1 s4 i1)] : List Token)).bind fun _ =>
        if (r5 != 0) = true then
        some ((l2 ++ ([(Token.mk 1 s4 i1)] : List Token)), 0, 0)
       else
        lexer_Scan_loop1 p_text k1 m1 (IntKind.wrap .i64 (i1 + (if r4 > 1 then r4 else 1))) (l2 ++ ([(Token.mk 1 s4 i1)] : List Token))
     else
      if (r1 == 3) = true then
       if ((4 : Int) != 0) = true then
        some ([], i1, 4)
       else
        (appO 32 l2 ([(Token.mk 0 [] i1)] : List Token)).bind fun _ =>
         some ((l2 ++ ([(Token.mk 0 [] i1)] : List Token)), 0, 0)
      else
       if (r1 == 4) = true then
        (cut p_text i1 (p_text.length : Int)).bind fun s5 =>
         (lexer_run s5 []).bind fun r6 =>
         (cut p_text i1 (IntKind.wrap .i64 (i1 + (if r6 > 1 then r6 else 1)))).bind fun s6 =>
         if ((0 : Int) != 0) = true then
         some ([], i1, 0)
        else
         (appO 32 l2 ([(Token.mk 2 s6 i1)] : List Token)).bind fun _ =>
          if ((0 : Int) != 0) = true then
          some ((l2 ++ ([(Token.mk 2 s6 i1)] : List Token)), 0, 0)
         else
          lexer_Scan_loop1 p_text k1 m1 (IntKind.wrap .i64 (i1 + (if r6 > 1 then r6 else 1))) (l2 ++ ([(Token.mk 2 s6 i1)] : List Token))
       else
        if (r1 == 5) = true then
         if ((4 : Int) != 0) = true then
          some ([], i1, 4)
         else
          (appO 32 l2 ([(Token.mk 0 [] i1)] : List Token)).bind fun _ =>
           some ((l2 ++ ([(Token.mk 0 [] i1)] : List Token)), 0, 0)
        else
         none
  else
   k1 l2
def lexer_Scan (p_text : (List UInt8)) : Option ((List Token) × Int × Int) :=
 if (decide ((p_text.length : Int) > 4096)) = true then
 some ([], 0, 17)
 else
 joinK (fun (l9 : (List Token)) =>
  if ((0 : Int) != 0) = true then
   some ([], (p_text.length : Int), 0)
  else
   (appO 32 l9 ([(Token.mk 3 [] (p_text.length : Int))] : List Token)).bind fun _ =>
    some ((l9 ++ ([(Token.mk 3 [] (p_text.length : Int))] : List Token)), 0, 0)) fun k1 =>
  lexer_Scan_loop1 p_text k1 (Int.toNat ((p_text.length : Int) - 0) + 1) 0 ([] : List Token)

def program_reader_takes (p_r : Rdr) (p_kind : Int) (p_text : (List UInt8)) : Option (Bool × Int × Bool) :=
 (at? p_r.tokens p_r.at_).bind fun x1 =>
 if ((p_r.bad || (x1.kind != p_kind)) || ((!(p_text == [])) && (!(x1.text == p_text)))) = true then
 some (false, p_r.at_, p_r.bad)
 else
 some (true, (IntKind.wrap .i64 (p_r.at_ + 1)), p_r.bad)

def program_reader_needs (p_r : Rdr) (p_kind : Int) (p_text : (List UInt8)) : Option ((List UInt8) × Int × Bool) :=
 (at? p_r.tokens p_r.at_).bind fun x1 =>
 (program_reader_takes p_r p_kind p_text).bind fun r1 =>
 if (!r1.1) = true then
 some ([], r1.2.1, true)
 else
 some (x1.text, r1.2.1, r1.2.2)

def internal_stringslite_HasPrefix (p_s : (List UInt8)) (p_prefix : (List UInt8)) : Option Bool :=
 (if (decide ((p_s.length : Int) ≥ (p_prefix.length : Int))) = true then (cut p_s 0 (p_prefix.length : Int)).bind fun s1 =>
 some (s1 == p_prefix) else some false).bind fun c1 =>
 some c1

def internal_stringslite_CutPrefix (p_s : (List UInt8)) (p_prefix : (List UInt8)) : Option ((List UInt8) × Bool) :=
 (internal_stringslite_HasPrefix p_s p_prefix).bind fun r1 =>
 if (!r1) = true then
 some (p_s, false)
 else
 (cut p_s (p_prefix.length : Int) (p_s.length : Int)).bind fun s1 =>
  some (s1, true)

def strings_CutPrefix (p_s : (List UInt8)) (p_prefix : (List UInt8)) : Option ((List UInt8) × Bool) :=
 (internal_stringslite_CutPrefix p_s p_prefix).bind fun r1 =>
 some (r1.1, r1.2)

def internal_strconv_Atoi_loop1 (s2 : (List UInt8)) (k3 : (Int → Option (Int × Unit))) : Nat → Int → Int → Option (Int × Unit)
 | 0, _, _ => none
 | m1 + 1, i1, i2 => if (decide (i2 < ((bytesI s2).length : Int))) = true then
  (at? (bytesI s2) i2).bind fun x1 =>
   if (decide ((IntKind.wrap .u8 (x1 - 48)) > 9)) = true then
   none
  else
   internal_strconv_Atoi_loop1 s2 k3 m1 (IntKind.wrap .i64 ((IntKind.wrap .i64 (i1 * 10)) + (IntKind.wrap .i64 (IntKind.wrap .u8 (x1 - 48))))) (IntKind.wrap .i64 (i2 + 1))
  else
   k3 i1
def internal_strconv_Atoi (p_s : (List UInt8)) : Option (Int × Unit) :=
 joinK (none) fun k1 =>
 if ((decide ((0 : Int) < (p_s.length : Int))) && (decide ((p_s.length : Int) < 19))) = true then
 joinK (fun (s2 : (List UInt8)) =>
  joinK (fun (i3 : Int) =>
   joinK (fun (i4 : Int) =>
    some (i4, ())) fun k4 =>
    (byteAt p_s 0).bind fun b3 =>
    if ((b3.toNat : Int) == 45) = true then
    k4 (IntKind.wrap .i64 (0 - i3))
   else
    k4 i3) fun k3 =>
   internal_strconv_Atoi_loop1 s2 k3 (Int.toNat (((bytesI s2).length : Int) - 0) + 1) 0 0) fun k2 =>
  (byteAt p_s 0).bind fun b1 =>
  (if ((b1.toNat : Int) == 45) = true then some true else (byteAt p_s 0).bind fun b2 =>
  some ((b2.toNat : Int) == 43)).bind fun c1 =>
  if c1 = true then
  (cut p_s 1 (p_s.length : Int)).bind fun s1 =>
   if (decide ((s1.length : Int) < 1)) = true then
   none
  else
   k2 s1
 else
  k2 p_s
 else
 k1

def strconv_Atoi (p_s : (List UInt8)) : Option (Int × Unit) :=
 (internal_strconv_Atoi p_s).bind fun r1 =>
 some (r1.1, ())

def lexer_Value (p_s : (List UInt8)) : Option (Int × Int) :=
 (strings_CutPrefix p_s [45]).bind fun r1 =>
 (lexer_Number r1.1).bind fun r2 =>
 if (r2 != 0) = true then
 some (0, r2)
 else
 if (r1.2 && (r1.1 == [48])) = true then
  some (0, 3)
 else
  (strconv_Atoi p_s).bind fun r3 =>
   some (r3.1, 0)

def program_value (p_s : (List UInt8)) : Option Int :=
 (lexer_Value p_s).bind fun r1 =>
 some r1.1

def program_reader_step_loop1 (p_r : Rdr) (k1 : (Int → Bool → (List Stroke) → Option (Node × Int × Bool))) : Nat → Int → Bool → (List Stroke) → Option (Node × Int × Bool)
 | 0, _, _, _ => none
 | m1 + 1, i1, c1, l1 => if (!c1) = true then
  (at? p_r.tokens i1).bind fun x1 =>
   (indexS [65, 66, 67, 68, 69, 70] x1.text).bind fun r1 =>
   if (((x1.kind != 0) || ((x1.text.length : Int) != 1)) || (decide (r1 < 0))) = true then
   k1 i1 ((l1.length : Int) == 0) l1
  else
   (program_reader_takes (Rdr.mk p_r.tokens (IntKind.wrap .i64 (i1 + 1)) c1) 2 [43]).bind fun r2 =>
    joinK (fun (i2 : Int) (c2 : Bool) =>
     (appO 16 l1 ([(Stroke.mk r1 r2.1)] : List Stroke)).bind fun _ =>
      program_reader_step_loop1 p_r k1 m1 i2 c2 (l1 ++ ([(Stroke.mk r1 r2.1)] : List Stroke))) fun k2 =>
    if (!r2.1) = true then
    (program_reader_needs (Rdr.mk p_r.tokens r2.2.1 r2.2.2) 2 [45]).bind fun r3 =>
     k2 r3.2.1 r3.2.2
   else
    k2 r2.2.1 r2.2.2
  else
   k1 i1 c1 l1
def program_reader_step (p_r : Rdr) : Option (Node × Int × Bool) :=
 joinK (fun (i3 : Int) (c3 : Bool) (l3 : (List Stroke)) =>
  joinK (fun (i4 : Int) (c4 : Bool) (i5 : Int) =>
   some ((Node.mk 0 (Step.mk l3 i5) 0 [] []), i4, c4)) fun k3 =>
   (at? p_r.tokens i3).bind fun x2 =>
   (program_reader_takes (Rdr.mk p_r.tokens i3 c3) 1 []).bind fun r4 =>
   if r4.1 = true then
   (program_value x2.text).bind fun r5 =>
    k3 r4.2.1 r4.2.2 r5
  else
   k3 r4.2.1 r4.2.2 0) fun k1 =>
 program_reader_step_loop1 p_r k1 (p_r.tokens.length + 2) p_r.at_ p_r.bad ([] : List Stroke)

def program_reader_node_loop1 (p_r : Rdr) (self : (Rdr → Option (Node × Int × Bool))) (k2 : (Int → Bool → (List Node) → Option (Node × Int × Bool))) : Nat → Int → Bool → (List Node) → Option (Node × Int × Bool)
 | 0, _, _, _ => none
 | m1 + 1, i1, c1, l1 => (program_reader_takes (Rdr.mk p_r.tokens i1 c1) 2 [59]).bind fun r3 =>
  if r3.1 = true then
  (self (Rdr.mk p_r.tokens r3.2.1 r3.2.2)).bind fun r4 =>
   (appO 88 l1 ([r4.1] : List Node)).bind fun _ =>
   program_reader_node_loop1 p_r self k2 m1 r4.2.1 r4.2.2 (l1 ++ ([r4.1] : List Node))
  else
   k2 r3.2.1 r3.2.2 l1
def program_reader_node_body (self : Rdr → Option (Node × Int × Bool)) (p_r : Rdr) : Option (Node × Int × Bool) :=
 joinK (fun (i3 : Int) (c3 : Bool) =>
  (program_reader_step (Rdr.mk p_r.tokens i3 c3)).bind fun r15 =>
   some (r15.1, r15.2.1, r15.2.2)) fun k1 =>
 (program_reader_takes p_r 2 [123]).bind fun r1 =>
 if r1.1 = true then
 (self (Rdr.mk p_r.tokens r1.2.1 r1.2.2)).bind fun r2 =>
  joinK (fun (i2 : Int) (c2 : Bool) (l3 : (List Node)) =>
   (program_reader_needs (Rdr.mk p_r.tokens i2 c2) 2 [125]).bind fun r5 =>
    some ((Node.mk 1 (Step.mk [] 0) 0 [] l3), r5.2.1, r5.2.2)) fun k2 =>
  program_reader_node_loop1 p_r self k2 (p_r.tokens.length + 2) r2.2.1 r2.2.2 ([r2.1] : List Node)
 else
 (program_reader_takes (Rdr.mk p_r.tokens r1.2.1 r1.2.2) 0 [114, 101, 112, 101, 97, 116]).bind fun r6 =>
  if r6.1 = true then
  (program_reader_needs (Rdr.mk p_r.tokens r6.2.1 r6.2.2) 1 []).bind fun r7 =>
   (program_value r7.1).bind fun r8 =>
   (self (Rdr.mk p_r.tokens r7.2.1 r7.2.2)).bind fun r9 =>
   some ((Node.mk 2 (Step.mk [] 0) r8 [] ([r9.1] : List Node)), r9.2.1, r9.2.2)
 else
  (program_reader_takes (Rdr.mk p_r.tokens r6.2.1 r6.2.2) 0 [105, 102]).bind fun r10 =>
   if r10.1 = true then
   (program_reader_needs (Rdr.mk p_r.tokens r10.2.1 r10.2.2) 0 []).bind fun r11 =>
    (self (Rdr.mk p_r.tokens r11.2.1 r11.2.2)).bind fun r12 =>
    (program_reader_needs (Rdr.mk p_r.tokens r12.2.1 r12.2.2) 0 [101, 108, 115, 101]).bind fun r13 =>
    (self (Rdr.mk p_r.tokens r13.2.1 r13.2.2)).bind fun r14 =>
    some ((Node.mk 3 (Step.mk [] 0) 0 r11.1 ([r12.1, r14.1] : List Node)), r14.2.1, r14.2.2)
  else
   k1 r10.2.1 r10.2.2
def program_reader_node : Nat → Rdr → Option (Node × Int × Bool)
 | 0 => fun _ => none
 | n + 1 => program_reader_node_body (program_reader_node n)

def program_Parse (p_text : (List UInt8)) : Option (Node × Int × Int) :=
 (lexer_Scan p_text).bind fun r1 =>
 if (r1.2.2 != 0) = true then
 some ((Node.mk 0 (Step.mk [] 0) 0 [] []), r1.2.1, r1.2.2)
 else
 (program_reader_node 600 (Rdr.mk r1.1 0 false)).bind fun r2 =>
  (at? r1.1 r2.2.1).bind fun x1 =>
  if (r2.2.2 || (x1.kind != 3)) = true then
  some ((Node.mk 0 (Step.mk [] 0) 0 [] []), x1.at_, 4)
 else
  (program_Check r2.1).bind fun r3 =>
   if (r3 != 0) = true then
   some ((Node.mk 0 (Step.mk [] 0) 0 [] []), 0, r3)
  else
   some (r2.1, 0, 0)

def program_length_loop1 (p_m : Motion) (p_on : (List (List UInt8))) (self : (Motion → (List (List UInt8)) → Option Int)) (k1 : (Int → Option Int)) : Nat → Int → Int → Option Int
 | 0, _, _ => none
 | m1 + 1, i1, i2 => if (decide (i2 < (p_m.prts.length : Int))) = true then
  (at? p_m.prts i2).bind fun x1 =>
   (self x1 p_on).bind fun r1 =>
   program_length_loop1 p_m p_on self k1 m1 (IntKind.wrap .i64 (i1 + r1)) (IntKind.wrap .i64 (i2 + 1))
  else
   k1 i1
def program_length_body (self : Motion → (List (List UInt8)) → Option Int) (p_m : Motion) (p_on : (List (List UInt8))) : Option Int :=
 joinK (fun (i3 : Int) =>
  some (if (1048577 : Int) < i3 then 1048577 else i3)) fun k1 =>
 if p_m.isSingle = true then
 k1 1
 else
 if p_m.isList = true then
  program_length_loop1 p_m p_on self k1 (Int.toNat ((p_m.prts.length : Int) - 0) + 1) 0 0
 else
  if p_m.isRepeat = true then
   (self p_m.prt p_on).bind fun r2 =>
    k1 (IntKind.wrap .i64 (p_m.cnt * r2))
  else
   if p_m.isChoice = true then
    (program_choice_taken (MChoice.mk p_m.nm p_m.thn p_m.oth) p_on).bind fun r3 =>
     (self r3 p_on).bind fun r4 =>
     k1 r4
   else
    k1 0
def program_length : Nat → Motion → (List (List UInt8)) → Option Int
 | 0 => fun _ _ => none
 | n + 1 => program_length_body (program_length n)

def program_of_loop1 (p_n : Node) (self : (Node → Option Motion)) (k1 : ((List Motion) → Option Motion)) : Nat → Int → (List Motion) → Option Motion
 | 0, _, _ => none
 | m1 + 1, i1, l1 => if (decide (i1 < (p_n.nodes.length : Int))) = true then
  (at? p_n.nodes i1).bind fun x1 =>
   (self x1).bind fun r1 =>
   (appO 16 l1 ([r1] : List Motion)).bind fun _ =>
   program_of_loop1 p_n self k1 m1 (IntKind.wrap .i64 (i1 + 1)) (l1 ++ ([r1] : List Motion))
  else
   k1 l1
def program_of_body (self : Node → Option Motion) (p_n : Node) : Option Motion :=
 joinK (fun (l3 : (List Motion)) =>
  if (p_n.kind == 0) = true then
   some (Motion.single p_n.step)
  else
   if (p_n.kind == 1) = true then
    some (Motion.list l3)
   else
    if (p_n.kind == 2) = true then
     (at? l3 0).bind fun x2 =>
      some (Motion.repeat_ p_n.count x2)
    else
     (at? l3 0).bind fun x3 =>
      (at? l3 1).bind fun x4 =>
      some (Motion.choice p_n.name x3 x4)) fun k1 =>
 program_of_loop1 p_n self k1 (Int.toNat ((p_n.nodes.length : Int) - 0) + 1) 0 ([] : List Motion)
def program_of : Nat → Node → Option Motion
 | 0 => fun _ => none
 | n + 1 => program_of_body (program_of n)

def program_Length (p_n : Node) (p_on : (List (List UInt8))) : Option (Int × Int) :=
 (program_Check p_n).bind fun r1 =>
 if (r1 != 0) = true then
 some (0, r1)
 else
 (program_of 600 p_n).bind fun r2 =>
  (program_length 600 r2 p_on).bind fun r3 =>
  if (decide (r3 > 1048576)) = true then
  some (0, 11)
 else
  some (r3, 0)

def program_unfolded_rng1 (q1 : ((List Step) × Int × (List Step))) (xx1 : Step) : Option (Bool × ((List Step) × Int × (List Step))) :=
 if ((q1.1.length : Int) == 64) = true then
  some (false, (q1.1, 12, []))
 else
  (appO 16 ([] : List Stroke) xx1.strokes).bind fun _ =>
   (appO 32 q1.1 ([xx1] : List Step)).bind fun _ =>
   some (true, ((q1.1 ++ ([xx1] : List Step)), q1.2.1, q1.2.2))
def program_unfolded (p_n : Node) (p_on : (List (List UInt8))) : Option ((List Step) × Int) :=
 (program_of 600 p_n).bind fun r1 =>
 (steps 600 r1 p_on).bind fun r2 =>
 (iterRun 600 (program_unfolded_rng1) r2 p_on (([] : List Step), 0, [])).bind fun r3 =>
 if r3.1 = true then
 some (r3.2.1, 0)
 else
 some (r3.2.2.2, r3.2.2.1)

def program_Unfold (p_n : Node) (p_on : (List (List UInt8))) : Option ((List Step) × Int) :=
 (program_Check p_n).bind fun r1 =>
 if (r1 != 0) = true then
 some ([], r1)
 else
 (program_unfolded p_n p_on).bind fun r2 =>
  some (r2.1, r2.2)

def sequence_fits_loop1 (p_s : Sequence) (p_step : Step) (k1 : (Option Int)) : Nat → Int → Option Int
 | 0, _ => none
 | m1 + 1, i1 => if (decide (i1 < (p_step.strokes.length : Int))) = true then
  (at? p_step.strokes i1).bind fun x1 =>
   if (decide (x1.actuator ≥ p_s.actuators)) = true then
   some 6
  else
   sequence_fits_loop1 p_s p_step k1 m1 (IntKind.wrap .i64 (i1 + 1))
  else
   k1
def sequence_fits_loop2 (p_step : Step) (p_x : Ends6) (k2 : (Option Int)) : Nat → Int → Option Int
 | 0, _ => none
 | m2 + 1, i2 => if (decide (i2 < (p_step.strokes.length : Int))) = true then
  (at? p_step.strokes i2).bind fun x2 =>
   joinK (fun (c1 : Bool) =>
    if c1 = true then
     some 14
    else
     sequence_fits_loop2 p_step p_x k2 m2 (IntKind.wrap .i64 (i2 + 1))) fun k3 =>
   if (x2.actuator == 0) = true then
   k3 (p_x.a0 == x2.out)
  else
   if (x2.actuator == 1) = true then
    k3 (p_x.a1 == x2.out)
   else
    if (x2.actuator == 2) = true then
     k3 (p_x.a2 == x2.out)
    else
     if (x2.actuator == 3) = true then
      k3 (p_x.a3 == x2.out)
     else
      if (x2.actuator == 4) = true then
       k3 (p_x.a4 == x2.out)
      else
       if (x2.actuator == 5) = true then
        k3 (p_x.a5 == x2.out)
       else
        none
  else
   k2
def sequence_fits (p_s : Sequence) (p_step : Step) (p_x : Ends6) : Option Int :=
 (stroke_CheckStep p_step).bind fun r1 =>
 if (r1 != 0) = true then
 some r1
 else
 joinK (joinK (some 0) fun k2 =>
  sequence_fits_loop2 p_step p_x k2 (Int.toNat ((p_step.strokes.length : Int) - 0) + 1) 0) fun k1 =>
  sequence_fits_loop1 p_s p_step k1 (Int.toNat ((p_step.strokes.length : Int) - 0) + 1) 0

def sequence_ends_behind_loop1 (p_s : Step) (k1 : (Bool → Bool → Bool → Bool → Bool → Bool → Option Ends6)) : Nat → Int → Bool → Bool → Bool → Bool → Bool → Bool → Option Ends6
 | 0, _, _, _, _, _, _, _ => none
 | m1 + 1, i1, c1, c2, c3, c4, c5, c6 => if (decide (i1 < (p_s.strokes.length : Int))) = true then
  (at? p_s.strokes i1).bind fun x1 =>
   if (x1.actuator == 0) = true then
   sequence_ends_behind_loop1 p_s k1 m1 (IntKind.wrap .i64 (i1 + 1)) x1.out c2 c3 c4 c5 c6
  else
   if (x1.actuator == 1) = true then
    sequence_ends_behind_loop1 p_s k1 m1 (IntKind.wrap .i64 (i1 + 1)) c1 x1.out c3 c4 c5 c6
   else
    if (x1.actuator == 2) = true then
     sequence_ends_behind_loop1 p_s k1 m1 (IntKind.wrap .i64 (i1 + 1)) c1 c2 x1.out c4 c5 c6
    else
     if (x1.actuator == 3) = true then
      sequence_ends_behind_loop1 p_s k1 m1 (IntKind.wrap .i64 (i1 + 1)) c1 c2 c3 x1.out c5 c6
     else
      if (x1.actuator == 4) = true then
       sequence_ends_behind_loop1 p_s k1 m1 (IntKind.wrap .i64 (i1 + 1)) c1 c2 c3 c4 x1.out c6
      else
       if (x1.actuator == 5) = true then
        sequence_ends_behind_loop1 p_s k1 m1 (IntKind.wrap .i64 (i1 + 1)) c1 c2 c3 c4 c5 x1.out
       else
        none
  else
   k1 c1 c2 c3 c4 c5 c6
def sequence_ends_behind (p_x : Ends6) (p_s : Step) : Option Ends6 :=
 joinK (fun (c7 : Bool) (c8 : Bool) (c9 : Bool) (c10 : Bool) (c11 : Bool) (c12 : Bool) =>
  some (Ends6.mk c7 c8 c9 c10 c11 c12)) fun k1 =>
 sequence_ends_behind_loop1 p_s k1 (Int.toNat ((p_s.strokes.length : Int) - 0) + 1) 0 p_x.a0 p_x.a1 p_x.a2 p_x.a3 p_x.a4 p_x.a5

def slices_Index_boolbool_loop1 (p_s : (List Bool)) (p_v : Bool) (k1 : (Option Int)) : Nat → Int → Option Int
 | 0, _ => none
 | m1 + 1, i1 => if (decide (i1 < (p_s.length : Int))) = true then
  (at? p_s i1).bind fun x1 =>
   if (p_v == x1) = true then
   some i1
  else
   slices_Index_boolbool_loop1 p_s p_v k1 m1 (IntKind.wrap .i64 (i1 + 1))
  else
   k1
def slices_Index_boolbool (p_s : (List Bool)) (p_v : Bool) : Option Int :=
 joinK (some (-1)) fun k1 =>
 slices_Index_boolbool_loop1 p_s p_v k1 (Int.toNat ((p_s.length : Int) - 0) + 1) 0

def slices_Contains_boolbool (p_s : (List Bool)) (p_v : Bool) : Option Bool :=
 (slices_Index_boolbool p_s p_v).bind fun r1 =>
 some (decide (r1 ≥ 0))

def sequence_Check_loop2 (k2 : (Bool → Bool → Bool → Bool → Bool → Bool → Bool → Bool → Bool → Bool → Bool → Bool → Option Int)) (x1 : Step) (r2 : (Ends6)) : Nat → Int → Bool → Bool → Bool → Bool → Bool → Bool → Option Int
 | 0, _, _, _, _, _, _, _ => none
 | m2 + 1, i2, c13, c14, c15, c16, c17, c18 => if (decide (i2 < (x1.strokes.length : Int))) = true then
  (at? x1.strokes i2).bind fun x2 =>
   if (x2.actuator == 0) = true then
   sequence_Check_loop2 k2 x1 r2 m2 (IntKind.wrap .i64 (i2 + 1)) true c14 c15 c16 c17 c18
  else
   if (x2.actuator == 1) = true then
    sequence_Check_loop2 k2 x1 r2 m2 (IntKind.wrap .i64 (i2 + 1)) c13 true c15 c16 c17 c18
   else
    if (x2.actuator == 2) = true then
     sequence_Check_loop2 k2 x1 r2 m2 (IntKind.wrap .i64 (i2 + 1)) c13 c14 true c16 c17 c18
    else
     if (x2.actuator == 3) = true then
      sequence_Check_loop2 k2 x1 r2 m2 (IntKind.wrap .i64 (i2 + 1)) c13 c14 c15 true c17 c18
     else
      if (x2.actuator == 4) = true then
       sequence_Check_loop2 k2 x1 r2 m2 (IntKind.wrap .i64 (i2 + 1)) c13 c14 c15 c16 true c18
      else
       if (x2.actuator == 5) = true then
        sequence_Check_loop2 k2 x1 r2 m2 (IntKind.wrap .i64 (i2 + 1)) c13 c14 c15 c16 c17 true
       else
        none
  else
   k2 r2.a0 r2.a1 r2.a2 r2.a3 r2.a4 r2.a5 c13 c14 c15 c16 c17 c18
def sequence_Check_loop1 (p_s : Sequence) (k1 : (Bool → Bool → Bool → Bool → Bool → Bool → Bool → Bool → Bool → Bool → Bool → Bool → Option Int)) : Nat → Int → Bool → Bool → Bool → Bool → Bool → Bool → Bool → Bool → Bool → Bool → Bool → Bool → Option Int
 | 0, _, _, _, _, _, _, _, _, _, _, _, _, _ => none
 | m1 + 1, i1, c1, c2, c3, c4, c5, c6, c7, c8, c9, c10, c11, c12 => if (decide (i1 < (p_s.steps.length : Int))) = true then
  joinK (fun (c19 : Bool) (c20 : Bool) (c21 : Bool) (c22 : Bool) (c23 : Bool) (c24 : Bool) (c25 : Bool) (c26 : Bool) (c27 : Bool) (c28 : Bool) (c29 : Bool) (c30 : Bool) =>
   sequence_Check_loop1 p_s k1 m1 (IntKind.wrap .i64 (i1 + 1)) c19 c20 c21 c22 c23 c24 c25 c26 c27 c28 c29 c30) fun k2 =>
   (at? p_s.steps i1).bind fun x1 =>
   (sequence_fits p_s x1 (Ends6.mk c1 c2 c3 c4 c5 c6)).bind fun r1 =>
   if (r1 != 0) = true then
   some r1
  else
   (sequence_ends_behind (Ends6.mk c1 c2 c3 c4 c5 c6) x1).bind fun r2 =>
    sequence_Check_loop2 k2 x1 r2 (Int.toNat ((x1.strokes.length : Int) - 0) + 1) 0 c7 c8 c9 c10 c11 c12
  else
   k1 c1 c2 c3 c4 c5 c6 c7 c8 c9 c10 c11 c12
def sequence_Check (p_s : Sequence) : Option Int :=
 if ((decide (p_s.actuators < 1)) || (decide (p_s.actuators > 6))) = true then
 some 2
 else
 if ((p_s.steps.length : Int) == 0) = true then
  some 13
 else
  if (decide ((p_s.steps.length : Int) > 64)) = true then
   some 5
  else
   joinK (fun (c31 : Bool) (c32 : Bool) (c33 : Bool) (c34 : Bool) (c35 : Bool) (c36 : Bool) (c37 : Bool) (c38 : Bool) (c39 : Bool) (c40 : Bool) (c41 : Bool) (c42 : Bool) =>
    if (!((Ends6.mk c31 c32 c33 c34 c35 c36) == (Ends6.mk false false false false false false))) = true then
     some 9
    else
     (part? ([c37, c38, c39, c40, c41, c42] : List Bool) 0 p_s.actuators).bind fun l1 =>
      (slices_Contains_boolbool l1 false).bind fun r3 =>
      if r3 = true then
      some 13
     else
      some 0) fun k1 =>
    sequence_Check_loop1 p_s k1 (Int.toNat ((p_s.steps.length : Int) - 0) + 1) 0 false false false false false false false false false false false false

def program_done_loop2 (k2 : (Int → Option (Sequence × Int))) (x1 : Step) : Nat → Int → Int → Option (Sequence × Int)
 | 0, _, _ => none
 | m2 + 1, i3, i4 => if (decide (i3 < (x1.strokes.length : Int))) = true then
  (at? x1.strokes i3).bind fun x2 =>
   program_done_loop2 k2 x1 m2 (IntKind.wrap .i64 (i3 + 1)) (if (IntKind.wrap .i64 (x2.actuator + 1)) > i4 then (IntKind.wrap .i64 (x2.actuator + 1)) else i4)
  else
   k2 i4
def program_done_loop1 (r1 : ((List Step) × Int)) (k1 : (Int → Option (Sequence × Int))) : Nat → Int → Int → Option (Sequence × Int)
 | 0, _, _ => none
 | m1 + 1, i1, i2 => if (decide (i1 < (r1.1.length : Int))) = true then
  joinK (fun (i5 : Int) =>
   program_done_loop1 r1 k1 m1 (IntKind.wrap .i64 (i1 + 1)) i5) fun k2 =>
   (at? r1.1 i1).bind fun x1 =>
   program_done_loop2 k2 x1 (Int.toNat ((x1.strokes.length : Int) - 0) + 1) 0 i2
  else
   k1 i2
def program_done (p_n : Node) (p_on : (List (List UInt8))) : Option (Sequence × Int) :=
 (program_unfolded p_n p_on).bind fun r1 =>
 if (r1.2 != 0) = true then
 some ((Sequence.mk 0 []), r1.2)
 else
 joinK (fun (i6 : Int) =>
  (sequence_Check (Sequence.mk i6 r1.1)).bind fun r2 =>
   if (r2 != 0) = true then
   some ((Sequence.mk 0 []), r2)
  else
   some ((Sequence.mk i6 r1.1), 0)) fun k1 =>
  program_done_loop1 r1 k1 (Int.toNat ((r1.1.length : Int) - 0) + 1) 0 0

def program_Sequence (p_n : Node) (p_on : (List (List UInt8))) : Option (Sequence × Int) :=
 (program_Check p_n).bind fun r1 =>
 if (r1 != 0) = true then
 some ((Sequence.mk 0 []), r1)
 else
 (program_done p_n p_on).bind fun r2 =>
  some (r2.1, r2.2)

def program_inputs_rng1 (q1 : (List (List UInt8))) (xx1 : (Int × Node)) : Option (Bool × (List (List UInt8))) :=
 joinK (fun (l4 : (List (List UInt8))) =>
  some (true, l4)) fun k1 =>
  if (xx1.2.kind == 3) = true then
  (appO 16 q1 ([xx1.2.name] : List (List UInt8))).bind fun _ =>
   k1 (q1 ++ ([xx1.2.name] : List (List UInt8)))
 else
  k1 q1
def program_inputs (p_n : Node) : Option (List (List UInt8)) :=
 (program_preorder_1 (program_inputs_rng1) p_n ([] : List (List UInt8))).bind fun r1 =>
 if r1.1 = true then
 (sortS r1.2).bind fun l5 =>
  (compactS l5).bind fun l6 =>
  some l6
 else
 none

def program_Faulty_loop2 (r2 : ((List (List UInt8)))) (i1 : Int) (k3 : ((List (List UInt8)) → Option ((List (List UInt8)) × Int × Int))) : Nat → Int → (List (List UInt8)) → Option ((List (List UInt8)) × Int × Int)
 | 0, _, _ => none
 | m2 + 1, i2, l1 => if (decide (i2 < (r2.length : Int))) = true then
  joinK (fun (l3 : (List (List UInt8))) =>
   program_Faulty_loop2 r2 i1 k3 m2 (IntKind.wrap .i64 (i2 + 1)) l3) fun k4 =>
   (at? r2 i2).bind fun x1 =>
   (guardO (decide (0 ≤ i2) && decide (i2 ≤ 64))).bind fun _ =>
   if ((andI .i64 (i1 / 2 ^ Int.toNat i2) 1) == 1) = true then
   (appO 16 l1 ([x1] : List (List UInt8))).bind fun _ =>
    k4 (l1 ++ ([x1] : List (List UInt8)))
  else
   k4 l1
  else
   k3 l1
def program_Faulty_loop1 (p_n : Node) (r2 : ((List (List UInt8)))) (k1 : (Option ((List (List UInt8)) × Int × Int))) : Nat → Int → Option ((List (List UInt8)) × Int × Int)
 | 0, _ => none
 | m1 + 1, i1 => if (decide (i1 < (IntKind.wrap .i64 ((1 : Int) * 2 ^ Int.toNat (r2.length : Int))))) = true then
  joinK (program_Faulty_loop1 p_n r2 k1 m1 (IntKind.wrap .i64 (i1 + 1))) fun k2 =>
   joinK (fun (l4 : (List (List UInt8))) =>
    (program_done p_n l4).bind fun r3 =>
     if (r3.2 != 0) = true then
     some (l4, r3.2, 0)
    else
     k2) fun k3 =>
   program_Faulty_loop2 r2 i1 k3 (Int.toNat ((r2.length : Int) - 0) + 1) 0 ([] : List (List UInt8))
  else
   k1
def program_Faulty (p_n : Node) : Option ((List (List UInt8)) × Int × Int) :=
 (program_Check p_n).bind fun r1 =>
 if (r1 != 0) = true then
 some ([], 0, r1)
 else
 (program_inputs p_n).bind fun r2 =>
  if (decide ((r2.length : Int) > 6)) = true then
  some ([], 0, 12)
 else
  joinK (some ([], 0, 0)) fun k1 =>
   (guardO (decide (0 ≤ (r2.length : Int)) && decide ((r2.length : Int) ≤ 64))).bind fun _ =>
   program_Faulty_loop1 p_n r2 k1 (Int.toNat ((IntKind.wrap .i64 ((1 : Int) * 2 ^ Int.toNat (r2.length : Int))) - 0) + 1) 0

def stroke_written (p_x : Stroke) : Option (List UInt8) :=
 if p_x.out = true then
 (catO ((Utf8.encode (IntKind.wrap .i32 (IntKind.wrap .i64 (65 + p_x.actuator)))).data.toList) [43]).bind fun s1 =>
  some s1
 else
 (catO ((Utf8.encode (IntKind.wrap .i32 (IntKind.wrap .i64 (65 + p_x.actuator)))).data.toList) [45]).bind fun s2 =>
  some s2

def stroke_Format_loop2 (x1 : Step) (k3 : ((List (List UInt8)) → Option ((List UInt8) × Int))) : Nat → Int → (List (List UInt8)) → Option ((List UInt8) × Int)
 | 0, _, _ => none
 | m2 + 1, i2, l2 => if (decide (i2 < (x1.strokes.length : Int))) = true then
  (at? x1.strokes i2).bind fun x2 =>
   (stroke_written x2).bind fun r2 =>
   (appO 16 l2 ([r2] : List (List UInt8))).bind fun _ =>
   stroke_Format_loop2 x1 k3 m2 (IntKind.wrap .i64 (i2 + 1)) (l2 ++ ([r2] : List (List UInt8)))
  else
   k3 l2
def stroke_Format_loop1 (p_l : (List Step)) (k1 : ((List (List UInt8)) → Option ((List UInt8) × Int))) : Nat → Int → (List (List UInt8)) → Option ((List UInt8) × Int)
 | 0, _, _ => none
 | m1 + 1, i1, l1 => if (decide (i1 < (p_l.length : Int))) = true then
  joinK (fun (l8 : (List (List UInt8))) =>
   stroke_Format_loop1 p_l k1 m1 (IntKind.wrap .i64 (i1 + 1)) l8) fun k2 =>
   (at? p_l i1).bind fun x1 =>
   (stroke_CheckStep x1).bind fun r1 =>
   if (r1 != 0) = true then
   some ([], r1)
  else
   joinK (fun (l4 : (List (List UInt8))) =>
    joinK (fun (l6 : (List (List UInt8))) =>
     (joinS l6 [32]).bind fun r4 =>
      (appO 16 l1 ([r4] : List (List UInt8))).bind fun _ =>
      k2 (l1 ++ ([r4] : List (List UInt8)))) fun k4 =>
     if (decide (x1.wait > 0)) = true then
     (itoa x1.wait).bind fun r3 =>
      (appO 16 l4 ([r3] : List (List UInt8))).bind fun _ =>
      k4 (l4 ++ ([r3] : List (List UInt8)))
    else
     k4 l4) fun k3 =>
    stroke_Format_loop2 x1 k3 (Int.toNat ((x1.strokes.length : Int) - 0) + 1) 0 ([] : List (List UInt8))
  else
   k1 l1
def stroke_Format (p_l : (List Step)) : Option ((List UInt8) × Int) :=
 if (decide ((p_l.length : Int) > 64)) = true then
 some ([], 5)
 else
 joinK (fun (l9 : (List (List UInt8))) =>
  (joinS l9 [59, 32]).bind fun r5 =>
   some (r5, 0)) fun k1 =>
  stroke_Format_loop1 p_l k1 (Int.toNat ((p_l.length : Int) - 0) + 1) 0 ([] : List (List UInt8))

def program_text_loop1 (p_m : Motion) (self : (Motion → Option (List UInt8))) (k2 : ((List (List UInt8)) → Option (List UInt8))) : Nat → Int → (List (List UInt8)) → Option (List UInt8)
 | 0, _, _ => none
 | m1 + 1, i1, l1 => if (decide (i1 < (p_m.prts.length : Int))) = true then
  (at? p_m.prts i1).bind fun x1 =>
   (self x1).bind fun r2 =>
   (appO 16 l1 ([r2] : List (List UInt8))).bind fun _ =>
   program_text_loop1 p_m self k2 m1 (IntKind.wrap .i64 (i1 + 1)) (l1 ++ ([r2] : List (List UInt8)))
  else
   k2 l1
def program_text_body (self : Motion → Option (List UInt8)) (p_m : Motion) : Option (List UInt8) :=
 joinK (some []) fun k1 =>
 if p_m.isSingle = true then
 (stroke_Format ([p_m.stp] : List Step)).bind fun r1 =>
  some r1.1
 else
 if p_m.isList = true then
  joinK (fun (l3 : (List (List UInt8))) =>
   (joinS l3 [59, 32]).bind fun r3 =>
    (catO [123, 32] r3).bind fun s1 =>
    (catO s1 [32, 125]).bind fun s2 =>
    some s2) fun k2 =>
   program_text_loop1 p_m self k2 (Int.toNat ((p_m.prts.length : Int) - 0) + 1) 0 ([] : List (List UInt8))
 else
  if p_m.isRepeat = true then
   (itoa p_m.cnt).bind fun r4 =>
    (catO [114, 101, 112, 101, 97, 116, 32] r4).bind fun s3 =>
    (catO s3 [32]).bind fun s4 =>
    (self p_m.prt).bind fun r5 =>
    (catO s4 r5).bind fun s5 =>
    some s5
  else
   if p_m.isChoice = true then
    (catO [105, 102, 32] p_m.nm).bind fun s6 =>
     (catO s6 [32]).bind fun s7 =>
     (self p_m.thn).bind fun r6 =>
     (catO s7 r6).bind fun s8 =>
     (catO s8 [32, 101, 108, 115, 101, 32]).bind fun s9 =>
     (self p_m.oth).bind fun r7 =>
     (catO s9 r7).bind fun s10 =>
     some s10
   else
    k1
def program_text : Nat → Motion → Option (List UInt8)
 | 0 => fun _ => none
 | n + 1 => program_text_body (program_text n)

def program_Format (p_n : Node) : Option ((List UInt8) × Int) :=
 (program_Check p_n).bind fun r1 =>
 if (r1 != 0) = true then
 some ([], r1)
 else
 (program_of 600 p_n).bind fun r2 =>
  (program_text 600 r2).bind fun r3 =>
  if (decide ((r3.length : Int) > 4096)) = true then
  some ([], 17)
 else
  some (r3, 0)

def program_Inputs (p_n : Node) : Option ((List (List UInt8)) × Int) :=
 (program_Check p_n).bind fun r1 =>
 if (r1 != 0) = true then
 some ([], r1)
 else
 (program_inputs p_n).bind fun r2 =>
  some (r2, 0)

def slices_Equal_stringstring_loop1 (p_s1 : (List (List UInt8))) (p_s2 : (List (List UInt8))) (k1 : (Option Bool)) : Nat → Int → Option Bool
 | 0, _ => none
 | m1 + 1, i1 => if (decide (i1 < (p_s1.length : Int))) = true then
  (at? p_s1 i1).bind fun x1 =>
   (at? p_s2 i1).bind fun x2 =>
   if (!(x1 == x2)) = true then
   some false
  else
   slices_Equal_stringstring_loop1 p_s1 p_s2 k1 m1 (IntKind.wrap .i64 (i1 + 1))
  else
   k1
def slices_Equal_stringstring (p_s1 : (List (List UInt8))) (p_s2 : (List (List UInt8))) : Option Bool :=
 if ((p_s1.length : Int) != (p_s2.length : Int)) = true then
 some false
 else
 joinK (some true) fun k1 =>
  slices_Equal_stringstring_loop1 p_s1 p_s2 k1 (Int.toNat ((p_s1.length : Int) - 0) + 1) 0

def ref13_Written (p_x : Stroke) : Option (List UInt8) :=
 (cut [65, 66, 67, 68, 69, 70] p_x.actuator (IntKind.wrap .i64 (p_x.actuator + 1))).bind fun s1 =>
 if p_x.out = true then
 (catO s1 [43]).bind fun s2 =>
  some s2
 else
 (catO s1 [45]).bind fun s3 =>
  some s3

def ref03_Digits_loop1 (k1 : ((List UInt8) → Option (List UInt8))) : Nat → (List UInt8) → Int → Option (List UInt8)
 | 0, _, _ => none
 | m1 + 1, s1, i1 => if ((decide (i1 > 0)) || (s1 == [])) = true then
  (cut [48, 49, 50, 51, 52, 53, 54, 55, 56, 57] (Int.tmod i1 10) (IntKind.wrap .i64 ((Int.tmod i1 10) + 1))).bind fun s2 =>
   (catO s2 s1).bind fun s3 =>
   ref03_Digits_loop1 k1 m1 s3 (IntKind.wrap .i64 (Int.tdiv i1 10))
  else
   k1 s1
def ref03_Digits (p_n : Int) : Option (List UInt8) :=
 joinK (fun (s4 : (List UInt8)) =>
  some s4) fun k1 =>
 ref03_Digits_loop1 k1 (p_n.toNat + 2) [] p_n

def ref13_Line_loop1 (p_x : Step) (k1 : ((List UInt8) → Option (List UInt8))) : Nat → (List UInt8) → Int → Option (List UInt8)
 | 0, _, _ => none
 | m1 + 1, s1, i1 => if (decide (i1 < (p_x.strokes.length : Int))) = true then
  joinK (fun (s3 : (List UInt8)) =>
   (at? p_x.strokes i1).bind fun x1 =>
    (ref13_Written x1).bind fun r1 =>
    (catO s3 r1).bind fun s4 =>
    ref13_Line_loop1 p_x k1 m1 s4 (IntKind.wrap .i64 (i1 + 1))) fun k2 =>
   if (decide (i1 > 0)) = true then
   (catO s1 [32]).bind fun s2 =>
    k2 s2
  else
   k2 s1
  else
   k1 s1
def ref13_Line (p_x : Step) : Option (List UInt8) :=
 joinK (fun (s5 : (List UInt8)) =>
  joinK (fun (s8 : (List UInt8)) =>
   some s8) fun k3 =>
   if (decide (p_x.wait > 0)) = true then
   (ref03_Digits p_x.wait).bind fun r2 =>
    (catO [32] r2).bind fun s6 =>
    (catO s5 s6).bind fun s7 =>
    k3 s7
  else
   k3 s5) fun k1 =>
 ref13_Line_loop1 p_x k1 (Int.toNat ((p_x.strokes.length : Int) - 0) + 1) [] 0

def ref13_Lines_loop1 (p_l : (List Step)) (k1 : ((List UInt8) → Option (List UInt8))) : Nat → (List UInt8) → Int → Option (List UInt8)
 | 0, _, _ => none
 | m1 + 1, s1, i1 => if (decide (i1 < (p_l.length : Int))) = true then
  joinK (fun (s3 : (List UInt8)) =>
   (at? p_l i1).bind fun x1 =>
    (ref13_Line x1).bind fun r1 =>
    (catO s3 r1).bind fun s4 =>
    ref13_Lines_loop1 p_l k1 m1 s4 (IntKind.wrap .i64 (i1 + 1))) fun k2 =>
   if (decide (i1 > 0)) = true then
   (catO s1 [59, 32]).bind fun s2 =>
    k2 s2
  else
   k2 s1
  else
   k1 s1
def ref13_Lines (p_l : (List Step)) : Option (List UInt8) :=
 joinK (fun (s5 : (List UInt8)) =>
  some s5) fun k1 =>
 ref13_Lines_loop1 p_l k1 (Int.toNat ((p_l.length : Int) - 0) + 1) [] 0

def law15_awake  : Option Bool :=
 (program_Parse [123, 32, 65, 43, 59, 32, 105, 102, 32, 108, 111, 110, 103, 32, 114, 101, 112, 101, 97, 116, 32, 50, 32, 123, 32, 66, 43, 59, 32, 66, 45, 32, 125, 32, 101, 108, 115, 101, 32, 66, 43, 32, 66, 45, 32, 53, 48, 59, 32, 65, 45, 32, 125]).bind fun r1 =>
 (program_Parse [123, 32, 65, 43, 59, 32, 105, 102, 32, 108, 111, 110, 103, 32, 114, 101, 112, 101, 97, 116, 32, 50, 32, 123, 32, 66, 43, 59, 32, 66, 45, 32, 125, 32, 101, 108, 115, 101, 32, 123, 32, 66, 43, 59, 32, 66, 45, 32, 125, 59, 32, 65, 45, 32, 125]).bind fun r2 =>
 (program_Inputs r2.1).bind fun r3 =>
 (program_Unfold r2.1 ([[108, 111, 110, 103]] : List (List UInt8))).bind fun r4 =>
 (program_Unfold r2.1 []).bind fun r5 =>
 (program_Faulty r2.1).bind fun r6 =>
 (program_Parse [114, 101, 112, 101, 97, 116, 32, 51, 32, 65, 43]).bind fun r7 =>
 (program_Length r7.1 []).bind fun r8 =>
 (program_Sequence r7.1 []).bind fun r9 =>
 (program_Parse [123, 32, 65, 43, 32, 59, 32, 125]).bind fun r10 =>
 (program_Format r2.1).bind fun r11 =>
 if (((((((((IntKind.wrap .i64 ((IntKind.wrap .i64 ((IntKind.wrap .i64 ((IntKind.wrap .i64 ((IntKind.wrap .i64 ((IntKind.wrap .i64 ((IntKind.wrap .i64 (r2.2.2 + r3.2)) + r4.2)) + r5.2)) + r6.2.2)) + r7.2.2)) + r8.2)) + r11.2)) != 0) || (r1.2.2 != 7)) || (r6.2.1 != 0)) || (r9.2 != 14)) || (r10.2.2 != 4)) || (r10.2.1 != 7)) || (r8.1 != 3)) || (!(r11.1 == [123, 32, 65, 43, 59, 32, 105, 102, 32, 108, 111, 110, 103, 32, 114, 101, 112, 101, 97, 116, 32, 50, 32, 123, 32, 66, 43, 59, 32, 66, 45, 32, 125, 32, 101, 108, 115, 101, 32, 123, 32, 66, 43, 59, 32, 66, 45, 32, 125, 59, 32, 65, 45, 32, 125]))) = true then
 some false
 else
 (slices_Equal_stringstring r3.1 ([[108, 111, 110, 103]] : List (List UInt8))).bind fun r12 =>
  (if r12 = true then (ref13_Lines r4.1).bind fun r13 =>
  some (r13 == [65, 43, 59, 32, 66, 43, 59, 32, 66, 45, 59, 32, 66, 43, 59, 32, 66, 45, 59, 32, 65, 45]) else some false).bind fun c1 =>
  (if c1 = true then (ref13_Lines r5.1).bind fun r14 =>
  some (r14 == [65, 43, 59, 32, 66, 43, 59, 32, 66, 45, 59, 32, 65, 45]) else some false).bind fun c2 =>
  some c2

def ref15_count_loop1 (p_x : Node) (p_most : Int) (self : (Node → Int → Option Int)) (k1 : (Int → Option Int)) : Nat → Int → Int → Option Int
 | 0, _, _ => none
 | m1 + 1, i1, i2 => if ((decide (i2 < (p_x.nodes.length : Int))) && (decide (i1 ≤ p_most))) = true then
  (at? p_x.nodes i2).bind fun x1 =>
   (self x1 (IntKind.wrap .i64 (p_most - i1))).bind fun r1 =>
   ref15_count_loop1 p_x p_most self k1 m1 (IntKind.wrap .i64 (i1 + r1)) (IntKind.wrap .i64 (i2 + 1))
  else
   k1 i1
def ref15_count_body (self : Node → Int → Option Int) (p_x : Node) (p_most : Int) : Option Int :=
 joinK (fun (i3 : Int) =>
  some i3) fun k1 =>
 ref15_count_loop1 p_x p_most self k1 (p_x.nodes.length + 1) 1 0
def ref15_count : Nat → Node → Int → Option Int
 | 0 => fun _ _ => none
 | n + 1 => ref15_count_body (ref15_count n)

def ref15_deep_loop1 (p_x : Node) (p_most : Int) (self : (Node → Int → Option Bool)) (k1 : (Option Bool)) : Nat → Int → Option Bool
 | 0, _ => none
 | m1 + 1, i1 => if (decide (i1 < (p_x.nodes.length : Int))) = true then
  (at? p_x.nodes i1).bind fun x1 =>
   (self x1 (IntKind.wrap .i64 (p_most - 1))).bind fun r1 =>
   if (!r1) = true then
   some false
  else
   ref15_deep_loop1 p_x p_most self k1 m1 (IntKind.wrap .i64 (i1 + 1))
  else
   k1
def ref15_deep_body (self : Node → Int → Option Bool) (p_x : Node) (p_most : Int) : Option Bool :=
 if (decide (p_most < 1)) = true then
 some false
 else
 if (p_most == 1) = true then
  some ((p_x.nodes.length : Int) == 0)
 else
  joinK (some true) fun k1 =>
   ref15_deep_loop1 p_x p_most self k1 (Int.toNat ((p_x.nodes.length : Int) - 0) + 1) 0
def ref15_deep : Nat → Node → Int → Option Bool
 | 0 => fun _ _ => none
 | n + 1 => ref15_deep_body (ref15_deep n)

def ref15_Light (p_x : Node) : Option Bool :=
 (ref15_count 600 p_x 256).bind fun r1 =>
 (if (decide (r1 ≤ 256)) = true then (ref15_deep 600 p_x 16).bind fun r2 =>
 some r2 else some false).bind fun c1 =>
 some c1

def ref12_Letter (p_b : Int) : Option Bool :=
 some (((decide (p_b ≥ 97)) && (decide (p_b ≤ 122))) || ((decide (p_b ≥ 65)) && (decide (p_b ≤ 90))))

def ref12_Digit (p_b : Int) : Option Bool :=
 some ((decide (p_b ≥ 48)) && (decide (p_b ≤ 57)))

def ref12_inner (p_b : Int) : Option Bool :=
 (ref12_Letter p_b).bind fun r1 =>
 (if r1 = true then some true else (ref12_Digit p_b).bind fun r2 =>
 some r2).bind fun c1 =>
 some (c1 || (p_b == 95))

def ref12_Word_loop1 (p_s : (List UInt8)) (k1 : (Option Int)) : Nat → Int → Option Int
 | 0, _ => none
 | m1 + 1, i1 => if (decide (i1 < (p_s.length : Int))) = true then
  (byteAt p_s i1).bind fun b2 =>
   (ref12_inner (b2.toNat : Int)).bind fun r2 =>
   if (!r2) = true then
   some 3
  else
   ref12_Word_loop1 p_s k1 m1 (IntKind.wrap .i64 (i1 + 1))
  else
   k1
def ref12_Word (p_s : (List UInt8)) : Option Int :=
 (if ((p_s.length : Int) == 0) = true then some true else (byteAt p_s 0).bind fun b1 =>
 (ref12_Letter (b1.toNat : Int)).bind fun r1 =>
 some (!r1)).bind fun c1 =>
 if c1 = true then
 some 3
 else
 joinK (if (decide ((p_s.length : Int) > 24)) = true then
  some 17
 else
  some 0) fun k1 =>
  ref12_Word_loop1 p_s k1 (Int.toNat ((p_s.length : Int) - 0) + 1) 0

def ref13_Actuator (p_n : Int) : Option Bool :=
 some ((decide (p_n ≥ 0)) && (decide (p_n < 6)))

def ref03_Time (p_n : Int) : Option Bool :=
 some ((decide (p_n ≥ 0)) && (decide (p_n ≤ 1000000)))

def ref13_CheckStep_loop1 (p_x : Step) (k1 : (Option Int)) : Nat → Int → Option Int
 | 0, _ => none
 | m1 + 1, i1 => if (decide (i1 < (p_x.strokes.length : Int))) = true then
  (at? p_x.strokes i1).bind fun x1 =>
   (ref13_Actuator x1.actuator).bind fun r1 =>
   if (!r1) = true then
   some 2
  else
   (if (decide (i1 > 0)) = true then (at? p_x.strokes i1).bind fun x2 =>
    (at? p_x.strokes (IntKind.wrap .i64 (i1 - 1))).bind fun x3 =>
    some (x2.actuator == x3.actuator) else some false).bind fun c1 =>
    if c1 = true then
    some 7
   else
    (if (decide (i1 > 0)) = true then (at? p_x.strokes i1).bind fun x4 =>
     (at? p_x.strokes (IntKind.wrap .i64 (i1 - 1))).bind fun x5 =>
     some (decide (x4.actuator < x5.actuator)) else some false).bind fun c2 =>
     if c2 = true then
     some 9
    else
     ref13_CheckStep_loop1 p_x k1 m1 (IntKind.wrap .i64 (i1 + 1))
  else
   k1
def ref13_CheckStep (p_x : Step) : Option Int :=
 if ((p_x.strokes.length : Int) == 0) = true then
 some 13
 else
 if (decide ((p_x.strokes.length : Int) > 6)) = true then
  some 5
 else
  joinK ((ref03_Time p_x.wait).bind fun r2 =>
   if (!r2) = true then
   some 2
  else
   some 0) fun k1 =>
   ref13_CheckStep_loop1 p_x k1 (Int.toNat ((p_x.strokes.length : Int) - 0) + 1) 0

def ref15_shape (p_x : Node) : Option Bool :=
 if (p_x.kind == 0) = true then
 some ((((p_x.nodes.length : Int) == 0) && (p_x.count == 0)) && (p_x.name == []))
 else
 if (p_x.kind == 1) = true then
  some ((((decide ((p_x.nodes.length : Int) > 0)) && (((p_x.step.strokes.length : Int) == 0) && (p_x.step.wait == 0))) && (p_x.count == 0)) && (p_x.name == []))
 else
  if (p_x.kind == 2) = true then
   some ((((p_x.nodes.length : Int) == 1) && (((p_x.step.strokes.length : Int) == 0) && (p_x.step.wait == 0))) && (p_x.name == []))
  else
   some ((((p_x.nodes.length : Int) == 2) && (((p_x.step.strokes.length : Int) == 0) && (p_x.step.wait == 0))) && (p_x.count == 0))

def ref15_node (p_x : Node) : Option Int :=
 if ((decide (p_x.kind < 0)) || (decide (p_x.kind > 3))) = true then
 some 1
 else
 (ref15_shape p_x).bind fun r1 =>
  if (!r1) = true then
  some 3
 else
  joinK (some 0) fun k1 =>
   if (p_x.kind == 0) = true then
   (ref13_CheckStep p_x.step).bind fun r2 =>
    some r2
  else
   if (p_x.kind == 2) = true then
    if ((decide (p_x.count < 1)) || (decide (p_x.count > 64))) = true then
     some 2
    else
     k1
   else
    if (p_x.kind == 3) = true then
     (ref12_Word p_x.name).bind fun r3 =>
      some r3
    else
     k1

def ref15_nodes_loop1 (p_x : Node) (self : (Node → Option Int)) (k1 : (Option Int)) : Nat → Int → Option Int
 | 0, _ => none
 | m1 + 1, i1 => if (decide (i1 < (p_x.nodes.length : Int))) = true then
  (at? p_x.nodes i1).bind fun x1 =>
   (self x1).bind fun r2 =>
   if (r2 != 0) = true then
   some r2
  else
   ref15_nodes_loop1 p_x self k1 m1 (IntKind.wrap .i64 (i1 + 1))
  else
   k1
def ref15_nodes_body (self : Node → Option Int) (p_x : Node) : Option Int :=
 (ref15_node p_x).bind fun r1 =>
 if (r1 != 0) = true then
 some r1
 else
 joinK (some 0) fun k1 =>
  ref15_nodes_loop1 p_x self k1 (Int.toNat ((p_x.nodes.length : Int) - 0) + 1) 0
def ref15_nodes : Nat → Node → Option Int
 | 0 => fun _ => none
 | n + 1 => ref15_nodes_body (ref15_nodes n)

def ref15_Check (p_x : Node) : Option Int :=
 (ref15_Light p_x).bind fun r1 =>
 if (!r1) = true then
 some 5
 else
 (ref15_nodes 600 p_x).bind fun r2 =>
  some r2

def ref13_SameStrokes_loop1 (p_a : (List Stroke)) (p_b : (List Stroke)) (k1 : (Option Bool)) : Nat → Int → Option Bool
 | 0, _ => none
 | m1 + 1, i1 => if (decide (i1 < (p_a.length : Int))) = true then
  (at? p_a i1).bind fun x1 =>
   (at? p_b i1).bind fun x2 =>
   if (!(x1 == x2)) = true then
   some false
  else
   ref13_SameStrokes_loop1 p_a p_b k1 m1 (IntKind.wrap .i64 (i1 + 1))
  else
   k1
def ref13_SameStrokes (p_a : (List Stroke)) (p_b : (List Stroke)) : Option Bool :=
 if ((p_a.length : Int) != (p_b.length : Int)) = true then
 some false
 else
 joinK (some true) fun k1 =>
  ref13_SameStrokes_loop1 p_a p_b k1 (Int.toNat ((p_a.length : Int) - 0) + 1) 0

def ref13_Same (p_a : Step) (p_b : Step) : Option Bool :=
 (if (p_a.wait == p_b.wait) = true then (ref13_SameStrokes p_a.strokes p_b.strokes).bind fun r1 =>
 some r1 else some false).bind fun c1 =>
 some c1

def ref15_short_loop1 (p_x : Node) (self : (Node → Option Bool)) (k1 : (Option Bool)) : Nat → Int → Option Bool
 | 0, _ => none
 | m1 + 1, i1 => if (decide (i1 < (p_x.nodes.length : Int))) = true then
  (at? p_x.nodes i1).bind fun x1 =>
   (self x1).bind fun r1 =>
   if (!r1) = true then
   some false
  else
   ref15_short_loop1 p_x self k1 m1 (IntKind.wrap .i64 (i1 + 1))
  else
   k1
def ref15_short_body (self : Node → Option Bool) (p_x : Node) : Option Bool :=
 if ((decide ((p_x.step.strokes.length : Int) > 40)) || (decide ((p_x.name.length : Int) > 60))) = true then
 some false
 else
 joinK (some true) fun k1 =>
  ref15_short_loop1 p_x self k1 (Int.toNat ((p_x.nodes.length : Int) - 0) + 1) 0
def ref15_short : Nat → Node → Option Bool
 | 0 => fun _ => none
 | n + 1 => ref15_short_body (ref15_short n)

def ref15_Few (p_x : Node) : Option Bool :=
 (ref15_count 600 p_x 512).bind fun r1 =>
 (if (((decide (r1 > 30)) && (decide (r1 ≤ 256))) || (decide (r1 > 512))) = true then some true else (ref15_deep 600 p_x 40).bind fun r2 =>
 some (!r2)).bind fun c1 =>
 if c1 = true then
 some false
 else
 (if (decide (r1 > 256)) = true then some true else (ref15_short 600 p_x).bind fun r3 =>
  some r3).bind fun c2 =>
  some c2

def ref15_FewNames_loop1 (p_l : (List (List UInt8))) (k1 : (Option Bool)) : Nat → Int → Option Bool
 | 0, _ => none
 | m1 + 1, i1 => if ((decide (i1 < (p_l.length : Int))) && (decide (i1 < 20))) = true then
  (at? p_l i1).bind fun x1 =>
   if (decide ((x1.length : Int) > 60)) = true then
   some false
  else
   ref15_FewNames_loop1 p_l k1 m1 (IntKind.wrap .i64 (i1 + 1))
  else
   k1
def ref15_FewNames (p_l : (List (List UInt8))) : Option Bool :=
 joinK (some (decide ((p_l.length : Int) ≤ 20))) fun k1 =>
 ref15_FewNames_loop1 p_l k1 (p_l.length + 1) 0

def law15_few (p_x : Node) (p_names : (List (List UInt8))) : Option Bool :=
 (ref15_Few p_x).bind fun r1 =>
 (if r1 = true then (ref15_FewNames p_names).bind fun r2 =>
 some r2 else some false).bind fun c1 =>
 some c1

def ref13_SameSteps_loop1 (p_a : (List Step)) (p_b : (List Step)) (k1 : (Option Bool)) : Nat → Int → Option Bool
 | 0, _ => none
 | m1 + 1, i1 => if (decide (i1 < (p_a.length : Int))) = true then
  (at? p_a i1).bind fun x1 =>
   (at? p_b i1).bind fun x2 =>
   (ref13_Same x1 x2).bind fun r1 =>
   if (!r1) = true then
   some false
  else
   ref13_SameSteps_loop1 p_a p_b k1 m1 (IntKind.wrap .i64 (i1 + 1))
  else
   k1
def ref13_SameSteps (p_a : (List Step)) (p_b : (List Step)) : Option Bool :=
 if ((p_a.length : Int) != (p_b.length : Int)) = true then
 some false
 else
 joinK (some true) fun k1 =>
  ref13_SameSteps_loop1 p_a p_b k1 (Int.toNat ((p_a.length : Int) - 0) + 1) 0

def law15_right (p_x : Node) (p_on : (List (List UInt8))) : Option Bool :=
 (law15_few p_x p_on).bind fun r1 =>
 (if r1 = true then (ref15_Check p_x).bind fun r2 =>
 some (r2 == 0) else some false).bind fun c1 =>
 some c1

def slices_Concat_api_Stepapi_Step_loop1 (p_slices : (List (List Step))) (k1 : (Int → Option (List Step))) : Nat → Int → Int → Option (List Step)
 | 0, _, _ => none
 | m1 + 1, i1, i2 => if (decide (i2 < (p_slices.length : Int))) = true then
  joinK (fun (i3 : Int) =>
   slices_Concat_api_Stepapi_Step_loop1 p_slices k1 m1 i3 (IntKind.wrap .i64 (i2 + 1))) fun k2 =>
   (at? p_slices i2).bind fun x1 =>
   if (decide ((IntKind.wrap .i64 (i1 + (x1.length : Int))) < 0)) = true then
   none
  else
   k2 (IntKind.wrap .i64 (i1 + (x1.length : Int)))
  else
   k1 i1
def slices_Concat_api_Stepapi_Step_loop2 (p_slices : (List (List Step))) (k3 : ((List Step) → Option (List Step))) : Nat → Int → (List Step) → Option (List Step)
 | 0, _, _ => none
 | m2 + 1, i5, l1 => if (decide (i5 < (p_slices.length : Int))) = true then
  (at? p_slices i5).bind fun x2 =>
   (appO 32 l1 x2).bind fun _ =>
   slices_Concat_api_Stepapi_Step_loop2 p_slices k3 m2 (IntKind.wrap .i64 (i5 + 1)) (l1 ++ x2)
  else
   k3 l1
def slices_Concat_api_Stepapi_Step (p_slices : (List (List Step))) : Option (List Step) :=
 joinK (fun (i4 : Int) =>
  (guardO (decide (0 ≤ i4) && decide (i4 ≤ 1000000))).bind fun _ =>
   joinK (fun (l3 : (List Step)) =>
    some l3) fun k3 =>
   slices_Concat_api_Stepapi_Step_loop2 p_slices k3 (Int.toNat ((p_slices.length : Int) - 0) + 1) 0 ([] : List Step)) fun k1 =>
 slices_Concat_api_Stepapi_Step_loop1 p_slices k1 (Int.toNat ((p_slices.length : Int) - 0) + 1) 0 0

def law15_ProgramRepeats_loop1 (p_on : (List (List UInt8))) (r5 : ((List (List UInt8)) × Int)) (k1 : ((List (List UInt8)) → Option Bool)) : Nat → Int → (List (List UInt8)) → Option Bool
 | 0, _, _ => none
 | m1 + 1, i1, l1 => if (decide (i1 < (p_on.length : Int))) = true then
  joinK (fun (l3 : (List (List UInt8))) =>
   law15_ProgramRepeats_loop1 p_on r5 k1 m1 (IntKind.wrap .i64 (i1 + 1)) l3) fun k2 =>
   (at? p_on i1).bind fun x1 =>
   (slices_Contains_stringstring r5.1 x1).bind fun r6 =>
   if r6 = true then
   (appO 16 l1 ([x1] : List (List UInt8))).bind fun _ =>
    k2 (l1 ++ ([x1] : List (List UInt8)))
  else
   k2 l1
  else
   k1 l1
def law15_ProgramRepeats (p_x : Node) (p_on : (List (List UInt8))) (p_count : Int) : Option Bool :=
 (law15_right p_x p_on).bind fun r1 =>
 (if (!r1) = true then some true else (law15_few p_x p_on).bind fun r2 =>
 some (!r2)).bind fun c1 =>
 if c1 = true then
 (law15_awake).bind fun r3 =>
  some r3
 else
 (program_Unfold p_x p_on).bind fun r4 =>
  (program_Inputs p_x).bind fun r5 =>
  if (r5.2 != 0) = true then
  some false
 else
  joinK (fun (l4 : (List (List UInt8))) =>
   (program_Unfold p_x l4).bind fun r7 =>
    (if (r4.2 != r7.2) = true then some true else (ref13_SameSteps r4.1 r7.1).bind fun r8 =>
    some (!r8)).bind fun c2 =>
    if c2 = true then
    some false
   else
    if (r4.2 != 0) = true then
     (law15_awake).bind fun r9 =>
      some r9
    else
     (ref15_Check (Node.mk 2 (Step.mk [] 0) (IntKind.wrap .i64 ((Int.tmod (IntKind.wrap .i64 p_count) 64) + 1)) [] ([p_x] : List Node))).bind fun r10 =>
      (if (r10 != 0) = true then some true else (ref15_Check (Node.mk 1 (Step.mk [] 0) 0 [] ([p_x, p_x] : List Node))).bind fun r11 =>
      some (r11 != 0)).bind fun c3 =>
      if c3 = true then
      (law15_awake).bind fun r12 =>
       some r12
     else
      (program_Unfold (Node.mk 2 (Step.mk [] 0) (IntKind.wrap .i64 ((Int.tmod (IntKind.wrap .i64 p_count) 64) + 1)) [] ([p_x] : List Node)) p_on).bind fun r13 =>
       (if (!((decide ((IntKind.wrap .i64 ((IntKind.wrap .i64 ((Int.tmod (IntKind.wrap .i64 p_count) 64) + 1)) * (r4.1.length : Int))) > 64)) == (r13.2 == 12))) = true then some true else (if (r13.2 == 0) = true then (repSt r4.1 (IntKind.wrap .i64 ((Int.tmod (IntKind.wrap .i64 p_count) 64) + 1))).bind fun r14 =>
       (ref13_SameSteps r13.1 r14).bind fun r15 =>
       some (!r15) else some false).bind fun c5 =>
       some c5).bind fun c4 =>
       if c4 = true then
       some false
      else
       (program_Unfold (Node.mk 1 (Step.mk [] 0) 0 [] ([p_x, p_x] : List Node)) p_on).bind fun r16 =>
        (if ((decide ((IntKind.wrap .i64 (2 * (r4.1.length : Int))) > 64)) == (r16.2 == 12)) = true then (if (r16.2 != 0) = true then some true else (slices_Concat_api_Stepapi_Step ([r4.1, r4.1] : List (List Step))).bind fun r17 =>
        (ref13_SameSteps r16.1 r17).bind fun r18 =>
        some r18).bind fun c7 =>
        some c7 else some false).bind fun c6 =>
        (if c6 = true then (law15_awake).bind fun r19 =>
        some r19 else some false).bind fun c8 =>
        some c8) fun k1 =>
   law15_ProgramRepeats_loop1 p_on r5 k1 (Int.toNat ((p_on.length : Int) - 0) + 1) 0 ([] : List (List UInt8))

end Go.Proofs.YtgpfgnpdbmbknaaGreatDoor.W
