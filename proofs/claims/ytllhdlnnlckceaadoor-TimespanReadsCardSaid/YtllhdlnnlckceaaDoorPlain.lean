/- The plain functions. Written by our own program gen.py; Lean checks it. -/
import Derived.Test.YtllhdlnnlckceaaDoorTypes
import Derived.Test.YtllhdlnnlckceaaDoorStdPlain
import Derived.Test.YtllhdlnnlckceaaDoorTrim
set_option linter.unusedVariables false
set_option maxRecDepth 100000
namespace Go.Proofs.YtllhdlnnlckceaaDoor.W
open Go Go.RowKit
def timespan_timely (p_n : Int) : Option Bool :=
  some ((decide (p_n ≥ 0)) && (decide (p_n ≤ 1000000)))

def timespan_Check (p_a : Span) : Option Int :=
  (timespan_timely p_a.low).bind fun r1 =>
  (if (!r1) = true then some true else (timespan_timely p_a.high).bind fun r2 =>
  some (!r2)).bind fun c1 =>
  if c1 = true then
  some 2
  else
  if (decide (p_a.low > p_a.high)) = true then
    some 9
  else
    some 0

def timespan_Format (p_a : Span) : Option ((List UInt8) × Int) :=
  (timespan_Check p_a).bind fun r1 =>
  if (r1 != 0) = true then
  some ([], r1)
  else
  (itoa p_a.low).bind fun r2 =>
    joinK (fun (s3 : (List UInt8)) =>
      some (s3, 0)) fun k1 =>
    if (decide (p_a.high > p_a.low)) = true then
    (itoa p_a.high).bind fun r3 =>
      (catO [46, 46] r3).bind fun s1 =>
      (catO r2 s1).bind fun s2 =>
      k1 s2
  else
    k1 r2

def ref03_Time (p_n : Int) : Option Bool :=
  some ((decide (p_n ≥ 0)) && (decide (p_n ≤ 1000000)))

def ref03_Check (p_a : Span) : Option Int :=
  (ref03_Time p_a.low).bind fun r1 =>
  (if (!r1) = true then some true else (ref03_Time p_a.high).bind fun r2 =>
  some (!r2)).bind fun c1 =>
  if c1 = true then
  some 2
  else
  if (decide (p_a.low > p_a.high)) = true then
    some 9
  else
    some 0

def ref03_Digits_loop1 (k1 : ((List UInt8) → Option (List UInt8))) : Nat → (List UInt8) → Int → Option (List UInt8)
  | 0, _, _ => none
  | m1 + 1, s1, i1 => if ((decide (i1 > 0)) || (s1 == [])) = true then
      (cut [48, 49, 50, 51, 52, 53, 54, 55, 56, 57] (Int.tmod i1 10) (IntKind.wrap .i64 ((Int.tmod i1 10) + 1))).bind fun s2 =>
        (catO s2 s1).bind fun s3 =>
        ref03_Digits_loop1 k1 m1 s3 (IntKind.wrap .i64 (Int.tdiv i1 10))
    else
      k1 s1
def ref03_Digits (p_n : Int) : Option (List UInt8) :=
  joinK (fun (s4 : (List UInt8)) =>
    some s4) fun k1 =>
  ref03_Digits_loop1 k1 (p_n.toNat + 2) [] p_n

def ref03_Format (p_a : Span) : Option ((List UInt8) × Int) :=
  (ref03_Check p_a).bind fun r1 =>
  if (r1 != 0) = true then
  some ([], r1)
  else
  if (p_a.low == p_a.high) = true then
    (ref03_Digits p_a.low).bind fun r2 =>
      some (r2, 0)
  else
    (ref03_Digits p_a.low).bind fun r3 =>
      (catO r3 [46, 46]).bind fun s1 =>
      (ref03_Digits p_a.high).bind fun r4 =>
      (catO s1 r4).bind fun s2 =>
      some (s2, 0)

def timespan_Of (p_low : Int) (p_high : Int) : Option (Span × Int) :=
  (timespan_Check (Span.mk p_low p_high)).bind fun r1 =>
  if (r1 != 0) = true then
  some ((Span.mk 0 0), r1)
  else
  some ((Span.mk p_low p_high), 0)

def timespan_number (p_s : (List UInt8)) : Option (Int × Bool) :=
  (if ((p_s == []) || (decide ((p_s.length : Int) > 7))) = true then some true else (trimS p_s [48, 49, 50, 51, 52, 53, 54, 55, 56, 57]).bind fun r1 =>
  some (!(r1 == []))).bind fun c1 =>
  (if c1 = true then some true else (byteAt p_s 0).bind fun b1 =>
  some (((b1.toNat : Int) == 48) && (decide ((p_s.length : Int) > 1)))).bind fun c2 =>
  if c2 = true then
  some (0, false)
  else
  (strconv_Atoi p_s).bind fun r2 =>
    some (r2.1, true)

def timespan_Parse (p_s : (List UInt8)) : Option (Span × Int) :=
  if (decide ((p_s.length : Int) > 24)) = true then
  some ((Span.mk 0 0), 4)
  else
  (cutS p_s [46, 46]).bind fun r1 =>
    (timespan_number r1.1).bind fun r2 =>
    joinK (fun (i1 : Int) (c1 : Bool) =>
      if ((!r2.2) || (!c1)) = true then
        some ((Span.mk 0 0), 4)
      else
        (timespan_Of r2.1 i1).bind fun r4 =>
          if (((r4.2 == 0) && r1.2.2) && (r2.1 == i1)) = true then
          some ((Span.mk 0 0), 3)
        else
          some (r4.1, r4.2)) fun k1 =>
    if r1.2.2 = true then
    (timespan_number r1.2.1).bind fun r3 =>
      k1 r3.1 r3.2
  else
    k1 r2.1 true

def ref03_Of (p_low : Int) (p_high : Int) : Option (Span × Int) :=
  (ref03_Check (Span.mk p_low p_high)).bind fun r1 =>
  if (r1 != 0) = true then
  some ((Span.mk 0 0), r1)
  else
  some ((Span.mk p_low p_high), 0)

def ref03_dots_loop1 (p_s : (List UInt8)) (k1 : (Option Int)) : Nat → Int → Option Int
  | 0, _ => none
  | m1 + 1, i1 => if (decide ((IntKind.wrap .i64 (i1 + 1)) < (p_s.length : Int))) = true then
      (byteAt p_s i1).bind fun b1 =>
        (if ((b1.toNat : Int) == 46) = true then (byteAt p_s (IntKind.wrap .i64 (i1 + 1))).bind fun b2 =>
        some ((b2.toNat : Int) == 46) else some false).bind fun c1 =>
        if c1 = true then
        some i1
      else
        ref03_dots_loop1 p_s k1 m1 (IntKind.wrap .i64 (i1 + 1))
    else
      k1
def ref03_dots (p_s : (List UInt8)) : Option Int :=
  joinK (some (p_s.length : Int)) fun k1 =>
  ref03_dots_loop1 p_s k1 (Int.toNat ((p_s.length : Int) - (IntKind.wrap .i64 (0 + 1))) + 1) 0

def ref03_Number_loop1 (p_s : (List UInt8)) (k1 : (Int → Option (Int × Bool))) : Nat → Int → Int → Option (Int × Bool)
  | 0, _, _ => none
  | m1 + 1, i1, i2 => if (decide (i2 < (p_s.length : Int))) = true then
      (byteAt p_s i2).bind fun b2 =>
        (if (decide ((b2.toNat : Int) < 48)) = true then some true else (byteAt p_s i2).bind fun b3 =>
        some (decide ((b3.toNat : Int) > 57))).bind fun c3 =>
        if c3 = true then
        some (0, false)
      else
        (byteAt p_s i2).bind fun b4 =>
          ref03_Number_loop1 p_s k1 m1 (IntKind.wrap .i64 ((IntKind.wrap .i64 (10 * i1)) + (IntKind.wrap .i64 (IntKind.wrap .u8 ((b4.toNat : Int) - 48))))) (IntKind.wrap .i64 (i2 + 1))
    else
      k1 i1
def ref03_Number (p_s : (List UInt8)) : Option (Int × Bool) :=
  (if ((p_s == []) || (decide ((p_s.length : Int) > 7))) = true then some true else (if (decide ((p_s.length : Int) > 1)) = true then (byteAt p_s 0).bind fun b1 =>
  some ((b1.toNat : Int) == 48) else some false).bind fun c2 =>
  some c2).bind fun c1 =>
  if c1 = true then
  some (0, false)
  else
  joinK (fun (i3 : Int) =>
      some (i3, true)) fun k1 =>
    ref03_Number_loop1 p_s k1 (Int.toNat ((p_s.length : Int) - 0) + 1) 0 0

def ref03_Parse (p_s : (List UInt8)) : Option (Span × Int) :=
  (ref03_dots p_s).bind fun r1 =>
  (cut p_s 0 r1).bind fun s1 =>
  (ref03_Number s1).bind fun r2 =>
  joinK (fun (i1 : Int) (c1 : Bool) =>
    if (((decide ((p_s.length : Int) > 24)) || (!r2.2)) || (!c1)) = true then
      some ((Span.mk 0 0), 4)
    else
      (ref03_Of r2.1 i1).bind fun r4 =>
        if (((r4.2 == 0) && (decide (r1 < (p_s.length : Int)))) && (r2.1 == i1)) = true then
        some ((Span.mk 0 0), 3)
      else
        some (r4.1, r4.2)) fun k1 =>
  if (decide (r1 < (p_s.length : Int))) = true then
  (cut p_s (IntKind.wrap .i64 (r1 + 2)) (p_s.length : Int)).bind fun s2 =>
    (ref03_Number s2).bind fun r3 =>
    k1 r3.1 r3.2
  else
  k1 r2.1 true

def ref03_both (p_a : Span) (p_b : Span) : Option Int :=
  (ref03_Check p_a).bind fun r1 =>
  if (r1 != 0) = true then
  some r1
  else
  (ref03_Check p_b).bind fun r2 =>
    some r2

def ref03_limited (p_a : Span) : Option (Span × Int) :=
  if (decide (p_a.high > 1000000)) = true then
  some ((Span.mk 0 0), 11)
  else
  some (p_a, 0)

def ref03_Plus (p_a : Span) (p_b : Span) : Option Span :=
  some (Span.mk (IntKind.wrap .i64 (p_a.low + p_b.low)) (IntKind.wrap .i64 (p_a.high + p_b.high)))

def ref03_Add (p_a : Span) (p_b : Span) : Option (Span × Int) :=
  (ref03_both p_a p_b).bind fun r1 =>
  if (r1 != 0) = true then
  some ((Span.mk 0 0), r1)
  else
  (ref03_Plus p_a p_b).bind fun r2 =>
    (ref03_limited r2).bind fun r3 =>
    some (r3.1, r3.2)

def law03_right (p_a : Span) (p_b : Span) : Option Bool :=
  (ref03_Add p_a p_b).bind fun r1 =>
  some (r1.2 == 0)

def timespan_checks_loop1 (p_l : (List Span)) (k1 : (Option Int)) : Nat → Int → Option Int
  | 0, _ => none
  | m1 + 1, i1 => if (decide (i1 < (p_l.length : Int))) = true then
      (at? p_l i1).bind fun x1 =>
        (timespan_Check x1).bind fun r1 =>
        if (r1 != 0) = true then
        some r1
      else
        timespan_checks_loop1 p_l k1 m1 (IntKind.wrap .i64 (i1 + 1))
    else
      k1
def timespan_checks (p_l : (List Span)) : Option Int :=
  joinK (some 0) fun k1 =>
  timespan_checks_loop1 p_l k1 (Int.toNat ((p_l.length : Int) - 0) + 1) 0

def timespan_Add (p_a : Span) (p_b : Span) : Option (Span × Int) :=
  (timespan_checks ([p_a, p_b] : List Span)).bind fun r1 =>
  if (r1 != 0) = true then
  some ((Span.mk 0 0), r1)
  else
  joinK (if (decide ((IntKind.wrap .i64 (p_a.high + p_b.high)) > 1000000)) = true then
    some ((Span.mk 0 0), 11)
  else
    some ((Span.mk (IntKind.wrap .i64 (p_a.low + p_b.low)) (IntKind.wrap .i64 (p_a.high + p_b.high))), 0)) fun k1 =>
    k1

def timespan_Later (p_a : Span) (p_b : Span) : Option (Span × Int) :=
  (timespan_checks ([p_a, p_b] : List Span)).bind fun r1 =>
  if (r1 != 0) = true then
  some ((Span.mk 0 0), r1)
  else
  joinK (if (decide ((if p_b.high > p_a.high then p_b.high else p_a.high) > 1000000)) = true then
    some ((Span.mk 0 0), 11)
  else
    some ((Span.mk (if p_b.low > p_a.low then p_b.low else p_a.low) (if p_b.high > p_a.high then p_b.high else p_a.high)), 0)) fun k1 =>
    k1

def timespan_Earlier (p_a : Span) (p_b : Span) : Option (Span × Int) :=
  (timespan_checks ([p_a, p_b] : List Span)).bind fun r1 =>
  if (r1 != 0) = true then
  some ((Span.mk 0 0), r1)
  else
  joinK (if (decide ((if p_b.high < p_a.high then p_b.high else p_a.high) > 1000000)) = true then
    some ((Span.mk 0 0), 11)
  else
    some ((Span.mk (if p_b.low < p_a.low then p_b.low else p_a.low) (if p_b.high < p_a.high then p_b.high else p_a.high)), 0)) fun k1 =>
    k1

def ref03_Has (p_a : Span) (p_t : Int) : Option Bool :=
  some ((decide (p_t ≥ p_a.low)) && (decide (p_t ≤ p_a.high)))

def ref03_Last (p_a : Span) (p_b : Span) : Option Span :=
  some (Span.mk (if p_b.low > p_a.low then p_b.low else p_a.low) (if p_b.high > p_a.high then p_b.high else p_a.high))

def ref03_Later (p_a : Span) (p_b : Span) : Option (Span × Int) :=
  (ref03_both p_a p_b).bind fun r1 =>
  if (r1 != 0) = true then
  some ((Span.mk 0 0), r1)
  else
  (ref03_Last p_a p_b).bind fun r2 =>
    some (r2, 0)

def ref03_Earlier (p_a : Span) (p_b : Span) : Option (Span × Int) :=
  (ref03_both p_a p_b).bind fun r1 =>
  if (r1 != 0) = true then
  some ((Span.mk 0 0), r1)
  else
  some ((Span.mk (if p_b.low < p_a.low then p_b.low else p_a.low) (if p_b.high < p_a.high then p_b.high else p_a.high)), 0)

def timespan_Hull (p_a : Span) (p_b : Span) : Option (Span × Int) :=
  (timespan_checks ([p_a, p_b] : List Span)).bind fun r1 =>
  if (r1 != 0) = true then
  some ((Span.mk 0 0), r1)
  else
  some ((Span.mk (if p_b.low < p_a.low then p_b.low else p_a.low) (if p_b.high > p_a.high then p_b.high else p_a.high)), 0)

def ref03_Hull (p_a : Span) (p_b : Span) : Option (Span × Int) :=
  (ref03_both p_a p_b).bind fun r1 =>
  if (r1 != 0) = true then
  some ((Span.mk 0 0), r1)
  else
  some ((Span.mk (if p_b.low < p_a.low then p_b.low else p_a.low) (if p_b.high > p_a.high then p_b.high else p_a.high)), 0)

def timespan_Meet (p_a : Span) (p_b : Span) : Option (Span × Bool × Int) :=
  (timespan_checks ([p_a, p_b] : List Span)).bind fun r1 =>
  if (r1 != 0) = true then
  some ((Span.mk 0 0), false, r1)
  else
  if (decide ((if p_b.low > p_a.low then p_b.low else p_a.low) > (if p_b.high < p_a.high then p_b.high else p_a.high))) = true then
    some ((Span.mk 0 0), false, 0)
  else
    some ((Span.mk (if p_b.low > p_a.low then p_b.low else p_a.low) (if p_b.high < p_a.high then p_b.high else p_a.high)), true, 0)

def ref03_Meet (p_a : Span) (p_b : Span) : Option (Span × Bool × Int) :=
  (ref03_both p_a p_b).bind fun r1 =>
  if (r1 != 0) = true then
  some ((Span.mk 0 0), false, r1)
  else
  if (decide ((if p_b.low > p_a.low then p_b.low else p_a.low) > (if p_b.high < p_a.high then p_b.high else p_a.high))) = true then
    some ((Span.mk 0 0), false, 0)
  else
    some ((Span.mk (if p_b.low > p_a.low then p_b.low else p_a.low) (if p_b.high < p_a.high then p_b.high else p_a.high)), true, 0)

def timespan_Within (p_a : Span) (p_b : Span) : Option (Bool × Int) :=
  (timespan_checks ([p_a, p_b] : List Span)).bind fun r1 =>
  if (r1 != 0) = true then
  some (false, r1)
  else
  some (((decide (p_a.low ≥ p_b.low)) && (decide (p_a.high ≤ p_b.high))), 0)

def ref03_Within (p_a : Span) (p_b : Span) : Option (Bool × Int) :=
  (ref03_both p_a p_b).bind fun r1 =>
  if (r1 != 0) = true then
  some (false, r1)
  else
  (ref03_Has p_b p_a.low).bind fun r2 =>
    (if r2 = true then (ref03_Has p_b p_a.high).bind fun r3 =>
    some r3 else some false).bind fun c1 =>
    some (c1, 0)

def timespan_Compare (p_a : Span) (p_b : Span) : Option (Int × Int) :=
  (timespan_checks ([p_a, p_b] : List Span)).bind fun r1 =>
  if (r1 != 0) = true then
  some (0, r1)
  else
  if (decide (p_a.high < p_b.low)) = true then
    some ((-1), 0)
  else
    if (decide (p_a.low > p_b.high)) = true then
      some (1, 0)
    else
      some (0, 0)

def ref03_Compare (p_a : Span) (p_b : Span) : Option (Int × Int) :=
  (ref03_both p_a p_b).bind fun r1 =>
  if (r1 != 0) = true then
  some (0, r1)
  else
  if (decide (p_a.high < p_b.low)) = true then
    some ((-1), 0)
  else
    if (decide (p_a.low > p_b.high)) = true then
      some (1, 0)
    else
      some (0, 0)

def timespan_Scale (p_a : Span) (p_k : Int) : Option (Span × Int) :=
  (timespan_Check p_a).bind fun r1 =>
  if (r1 != 0) = true then
  some ((Span.mk 0 0), r1)
  else
  if ((decide (p_k < 0)) || (decide (p_k > 1048576))) = true then
    some ((Span.mk 0 0), 2)
  else
    if (decide ((IntKind.wrap .i64 (p_k * p_a.high)) > 1000000)) = true then
      some ((Span.mk 0 0), 11)
    else
      some ((Span.mk (IntKind.wrap .i64 (p_k * p_a.low)) (IntKind.wrap .i64 (p_k * p_a.high))), 0)

def ref03_Scale (p_a : Span) (p_k : Int) : Option (Span × Int) :=
  (ref03_Check p_a).bind fun r1 =>
  if (r1 != 0) = true then
  some ((Span.mk 0 0), r1)
  else
  if ((decide (p_k < 0)) || (decide (p_k > 1048576))) = true then
    some ((Span.mk 0 0), 2)
  else
    (ref03_limited (Span.mk (IntKind.wrap .i64 (p_k * p_a.low)) (IntKind.wrap .i64 (p_k * p_a.high)))).bind fun r2 =>
      some (r2.1, r2.2)

def timespan_Sum_loop1 (p_l : (List Span)) (k1 : (Int → Int → Option (Span × Int))) : Nat → Int → Int → Int → Option (Span × Int)
  | 0, _, _, _ => none
  | m1 + 1, i1, i2, i3 => if (decide (i1 < (p_l.length : Int))) = true then
      (at? p_l i1).bind fun x1 =>
        timespan_Sum_loop1 p_l k1 m1 (IntKind.wrap .i64 (i1 + 1)) (IntKind.wrap .i64 (i2 + x1.low)) (IntKind.wrap .i64 (i3 + x1.high))
    else
      k1 i2 i3
def timespan_Sum (p_l : (List Span)) : Option (Span × Int) :=
  if (decide ((p_l.length : Int) > 256)) = true then
  some ((Span.mk 0 0), 5)
  else
  (timespan_checks p_l).bind fun r1 =>
    if (r1 != 0) = true then
    some ((Span.mk 0 0), r1)
  else
    joinK (fun (i4 : Int) (i5 : Int) =>
        if (decide (i5 > 1000000)) = true then
          some ((Span.mk 0 0), 11)
        else
          some ((Span.mk i4 i5), 0)) fun k1 =>
      timespan_Sum_loop1 p_l k1 (Int.toNat ((p_l.length : Int) - 0) + 1) 0 0 0

def ref03_Sum_loop1 (p_l : (List Span)) (k1 : (Int → Int → Option (Span × Int))) : Nat → Int → Int → Int → Option (Span × Int)
  | 0, _, _, _ => none
  | m1 + 1, i1, i2, i3 => if (decide (i1 < (p_l.length : Int))) = true then
      (at? p_l i1).bind fun x1 =>
        (ref03_Check x1).bind fun r1 =>
        if (r1 != 0) = true then
        some ((Span.mk 0 0), r1)
      else
        (at? p_l i1).bind fun x2 =>
          (ref03_Plus (Span.mk i2 i3) x2).bind fun r2 =>
          ref03_Sum_loop1 p_l k1 m1 (IntKind.wrap .i64 (i1 + 1)) r2.low r2.high
    else
      k1 i2 i3
def ref03_Sum (p_l : (List Span)) : Option (Span × Int) :=
  if (decide ((p_l.length : Int) > 256)) = true then
  some ((Span.mk 0 0), 5)
  else
  joinK (fun (i4 : Int) (i5 : Int) =>
      (ref03_limited (Span.mk i4 i5)).bind fun r3 =>
        some (r3.1, r3.2)) fun k1 =>
    ref03_Sum_loop1 p_l k1 (Int.toNat ((p_l.length : Int) - 0) + 1) 0 0 0

def law03_span (p_low : Int) (p_high : Int) : Option Span :=
  some (Span.mk p_low p_high)

def law03_awake  : Option Bool :=
  (law03_span 10 20).bind fun r1 =>
  (law03_span 5 30).bind fun r2 =>
  (timespan_Add r1 r2).bind fun r3 =>
  (timespan_Later r1 r2).bind fun r4 =>
  (timespan_Earlier r1 r2).bind fun r5 =>
  (timespan_Meet r1 r2).bind fun r6 =>
  (if ((IntKind.wrap .i64 ((IntKind.wrap .i64 ((IntKind.wrap .i64 (r3.2 + r4.2)) + r5.2)) + r6.2.2)) != 0) = true then some true else (law03_span 15 50).bind fun r7 =>
  some (!(r3.1 == r7))).bind fun c1 =>
  (if c1 = true then some true else (law03_span 10 30).bind fun r8 =>
  some (!(r4.1 == r8))).bind fun c2 =>
  (if c2 = true then some true else (law03_span 5 20).bind fun r9 =>
  some (!(r5.1 == r9))).bind fun c3 =>
  if ((c3 || (!r6.2.1)) || (!(r6.1 == r1))) = true then
  some false
  else
  (law03_span 1 4).bind fun r10 =>
    (law03_span 5 9).bind fun r11 =>
    (timespan_Compare r10 r11).bind fun r12 =>
    (law03_span 1 5).bind fun r13 =>
    (law03_span 5 9).bind fun r14 =>
    (timespan_Compare r13 r14).bind fun r15 =>
    (law03_span 20 30).bind fun r16 =>
    (timespan_Format r16).bind fun r17 =>
    (timespan_Parse [55]).bind fun r18 =>
    (timespan_Parse [55, 46, 46, 55]).bind fun r19 =>
    (timespan_Parse [57, 46, 46, 55]).bind fun r20 =>
    (if (((((((IntKind.wrap .i64 ((IntKind.wrap .i64 ((IntKind.wrap .i64 (r12.2 + r15.2)) + r17.2)) + r18.2)) == 0) && (r19.2 == 3)) && (r20.2 == 9)) && (r12.1 == (-1))) && (r15.1 == 0)) && (r17.1 == [50, 48, 46, 46, 51, 48])) = true then (law03_span 7 7).bind fun r21 =>
    some (r18.1 == r21) else some false).bind fun c4 =>
    some c4

def law03_TimespanTexts (p_a : Span) (p_s : (List UInt8)) : Option Bool :=
  if (decide ((p_s.length : Int) > 2000)) = true then
  (law03_awake).bind fun r1 =>
    some r1
  else
  (timespan_Format p_a).bind fun r2 =>
    (ref03_Format p_a).bind fun r3 =>
    (timespan_Parse p_s).bind fun r4 =>
    (ref03_Parse p_s).bind fun r5 =>
    (if ((((r2.1 == r3.1) && (r2.2 == r3.2)) && (r4.1 == r5.1)) && (r4.2 == r5.2)) = true then (law03_awake).bind fun r6 =>
    some r6 else some false).bind fun c1 =>
    some c1

def law03_TimespanCombines (p_a : Span) (p_b : Span) (p_by : B3) : Option Bool :=
  (law03_right p_a p_b).bind fun r1 =>
  if (!r1) = true then
  (law03_awake).bind fun r2 =>
    some r2
  else
  (guardO ((IntKind.wrap .i64 ((IntKind.wrap .i64 (p_a.high - p_a.low)) + 1)) != 0)).bind fun _ =>
    (guardO ((IntKind.wrap .i64 ((IntKind.wrap .i64 (p_b.high - p_b.low)) + 1)) != 0)).bind fun _ =>
    (timespan_Add p_a p_b).bind fun r3 =>
    (timespan_Later p_a p_b).bind fun r4 =>
    (timespan_Earlier p_a p_b).bind fun r5 =>
    (if ((IntKind.wrap .i64 ((IntKind.wrap .i64 (r3.2 + r4.2)) + r5.2)) != 0) = true then some true else (ref03_Has r3.1 (IntKind.wrap .i64 ((IntKind.wrap .i64 (p_a.low + (Int.tmod (IntKind.wrap .i64 p_by.a0) (IntKind.wrap .i64 ((IntKind.wrap .i64 (p_a.high - p_a.low)) + 1))))) + (IntKind.wrap .i64 (p_b.low + (Int.tmod (IntKind.wrap .i64 p_by.a1) (IntKind.wrap .i64 ((IntKind.wrap .i64 (p_b.high - p_b.low)) + 1)))))))).bind fun r6 =>
    some (!r6)).bind fun c1 =>
    (if c1 = true then some true else (ref03_Has r4.1 (if (IntKind.wrap .i64 (p_b.low + (Int.tmod (IntKind.wrap .i64 p_by.a1) (IntKind.wrap .i64 ((IntKind.wrap .i64 (p_b.high - p_b.low)) + 1))))) > (IntKind.wrap .i64 (p_a.low + (Int.tmod (IntKind.wrap .i64 p_by.a0) (IntKind.wrap .i64 ((IntKind.wrap .i64 (p_a.high - p_a.low)) + 1))))) then (IntKind.wrap .i64 (p_b.low + (Int.tmod (IntKind.wrap .i64 p_by.a1) (IntKind.wrap .i64 ((IntKind.wrap .i64 (p_b.high - p_b.low)) + 1))))) else (IntKind.wrap .i64 (p_a.low + (Int.tmod (IntKind.wrap .i64 p_by.a0) (IntKind.wrap .i64 ((IntKind.wrap .i64 (p_a.high - p_a.low)) + 1))))))).bind fun r7 =>
    some (!r7)).bind fun c2 =>
    (if c2 = true then some true else (ref03_Has r5.1 (if (IntKind.wrap .i64 (p_b.low + (Int.tmod (IntKind.wrap .i64 p_by.a1) (IntKind.wrap .i64 ((IntKind.wrap .i64 (p_b.high - p_b.low)) + 1))))) < (IntKind.wrap .i64 (p_a.low + (Int.tmod (IntKind.wrap .i64 p_by.a0) (IntKind.wrap .i64 ((IntKind.wrap .i64 (p_a.high - p_a.low)) + 1))))) then (IntKind.wrap .i64 (p_b.low + (Int.tmod (IntKind.wrap .i64 p_by.a1) (IntKind.wrap .i64 ((IntKind.wrap .i64 (p_b.high - p_b.low)) + 1))))) else (IntKind.wrap .i64 (p_a.low + (Int.tmod (IntKind.wrap .i64 p_by.a0) (IntKind.wrap .i64 ((IntKind.wrap .i64 (p_a.high - p_a.low)) + 1))))))).bind fun r8 =>
    some (!r8)).bind fun c3 =>
    (if c3 = true then some true else (ref03_Check r3.1).bind fun r9 =>
    some (r9 != 0)).bind fun c4 =>
    if c4 = true then
    some false
  else
    (guardO ((IntKind.wrap .i64 ((IntKind.wrap .i64 (r3.1.high - r3.1.low)) + 1)) != 0)).bind fun _ =>
      (ref03_Has p_a (if (IntKind.wrap .i64 ((IntKind.wrap .i64 (r3.1.low + (Int.tmod (IntKind.wrap .i64 p_by.a2) (IntKind.wrap .i64 ((IntKind.wrap .i64 (r3.1.high - r3.1.low)) + 1))))) - p_b.high)) > p_a.low then (IntKind.wrap .i64 ((IntKind.wrap .i64 (r3.1.low + (Int.tmod (IntKind.wrap .i64 p_by.a2) (IntKind.wrap .i64 ((IntKind.wrap .i64 (r3.1.high - r3.1.low)) + 1))))) - p_b.high)) else p_a.low)).bind fun r10 =>
      (if r10 = true then (ref03_Has p_b (IntKind.wrap .i64 ((IntKind.wrap .i64 (r3.1.low + (Int.tmod (IntKind.wrap .i64 p_by.a2) (IntKind.wrap .i64 ((IntKind.wrap .i64 (r3.1.high - r3.1.low)) + 1))))) - (if (IntKind.wrap .i64 ((IntKind.wrap .i64 (r3.1.low + (Int.tmod (IntKind.wrap .i64 p_by.a2) (IntKind.wrap .i64 ((IntKind.wrap .i64 (r3.1.high - r3.1.low)) + 1))))) - p_b.high)) > p_a.low then (IntKind.wrap .i64 ((IntKind.wrap .i64 (r3.1.low + (Int.tmod (IntKind.wrap .i64 p_by.a2) (IntKind.wrap .i64 ((IntKind.wrap .i64 (r3.1.high - r3.1.low)) + 1))))) - p_b.high)) else p_a.low)))).bind fun r11 =>
      some r11 else some false).bind fun c5 =>
      (if c5 = true then (law03_awake).bind fun r12 =>
      some r12 else some false).bind fun c6 =>
      some c6

def law03_TimespanReads (p_a : Span) (p_s : (List UInt8)) : Option Bool :=
  joinK (joinK ((law03_awake).bind fun r5 =>
  some r5) fun k2 =>
  (timespan_Parse p_s).bind fun r3 =>
  if (r3.2 == 0) = true then
  (timespan_Format r3.1).bind fun r4 =>
    if ((r4.2 != 0) || (!(r4.1 == p_s))) = true then
    some false
  else
    k2
  else
  k2) fun k1 =>
  (timespan_Format p_a).bind fun r1 =>
  if (r1.2 == 0) = true then
  (timespan_Parse r1.1).bind fun r2 =>
    if ((r2.2 != 0) || (!(r2.1 == p_a))) = true then
    some false
  else
    k1
  else
  k1

def law03_TimespanOrders (p_a : Span) (p_b : Span) : Option Bool :=
  (timespan_Later p_a p_b).bind fun r1 =>
  (ref03_Later p_a p_b).bind fun r2 =>
  if ((!(r1.1 == r2.1)) || (r1.2 != r2.2)) = true then
  some false
  else
  (timespan_Earlier p_a p_b).bind fun r3 =>
    (ref03_Earlier p_a p_b).bind fun r4 =>
    (timespan_Hull p_a p_b).bind fun r5 =>
    (ref03_Hull p_a p_b).bind fun r6 =>
    (if ((((r3.1 == r4.1) && (r3.2 == r4.2)) && (r5.1 == r6.1)) && (r5.2 == r6.2)) = true then (law03_awake).bind fun r7 =>
    some r7 else some false).bind fun c1 =>
    some c1

def law03_TimespanMeets (p_a : Span) (p_b : Span) : Option Bool :=
  (timespan_Meet p_a p_b).bind fun r1 =>
  (ref03_Meet p_a p_b).bind fun r2 =>
  (timespan_Within p_a p_b).bind fun r3 =>
  (ref03_Within p_a p_b).bind fun r4 =>
  if (((((!(r1.1 == r2.1)) || (!(r1.2.1 == r2.2.1))) || (r1.2.2 != r2.2.2)) || (!(r3.1 == r4.1))) || (r3.2 != r4.2)) = true then
  some false
  else
  (timespan_Compare p_a p_b).bind fun r5 =>
    (ref03_Compare p_a p_b).bind fun r6 =>
    (if ((r5.1 == r6.1) && (r5.2 == r6.2)) = true then (law03_awake).bind fun r7 =>
    some r7 else some false).bind fun c1 =>
    some c1

def law03_TimespanAdds (p_a : Span) (p_b : Span) (p_k : Int) : Option Bool :=
  (timespan_Of p_k p_b.high).bind fun r1 =>
  (ref03_Of p_k p_b.high).bind fun r2 =>
  (timespan_Check p_a).bind fun r3 =>
  (ref03_Check p_a).bind fun r4 =>
  if (((r3 != r4) || (!(r1.1 == r2.1))) || (r1.2 != r2.2)) = true then
  some false
  else
  (timespan_Add p_a p_b).bind fun r5 =>
    (ref03_Add p_a p_b).bind fun r6 =>
    (timespan_Scale p_a p_k).bind fun r7 =>
    (ref03_Scale p_a p_k).bind fun r8 =>
    (if ((((r5.1 == r6.1) && (r5.2 == r6.2)) && (r7.1 == r8.1)) && (r7.2 == r8.2)) = true then (law03_awake).bind fun r9 =>
    some r9 else some false).bind fun c1 =>
    some c1

def law03_TimespanAgrees_loop1 (p_a : Span) (p_b : Span) (r7 : (Span × Int)) (k1 : (Option Bool)) : Nat → Int → Option Bool
  | 0, _ => none
  | m1 + 1, i1 => if (decide (i1 < (([p_a, p_b] : List Span).length : Int))) = true then
      (at? ([p_a, p_b] : List Span) i1).bind fun x1 =>
        (timespan_Within x1 r7.1).bind fun r8 =>
        if ((r8.2 != 0) || (!r8.1)) = true then
        some false
      else
        law03_TimespanAgrees_loop1 p_a p_b r7 k1 m1 (IntKind.wrap .i64 (i1 + 1))
    else
      k1
def law03_TimespanAgrees (p_a : Span) (p_b : Span) : Option Bool :=
  (law03_right p_a p_b).bind fun r1 =>
  if (!r1) = true then
  (law03_awake).bind fun r2 =>
    some r2
  else
  (timespan_Add p_a p_b).bind fun r3 =>
    (timespan_Later p_a p_b).bind fun r4 =>
    (timespan_Earlier p_a p_b).bind fun r5 =>
    (timespan_Add r5.1 r4.1).bind fun r6 =>
    (timespan_Hull p_a p_b).bind fun r7 =>
    if (((IntKind.wrap .i64 ((IntKind.wrap .i64 ((IntKind.wrap .i64 ((IntKind.wrap .i64 (r3.2 + r4.2)) + r5.2)) + r6.2)) + r7.2)) != 0) || (!(r6.1 == r3.1))) = true then
    some false
  else
    joinK ((timespan_Meet p_a p_b).bind fun r9 =>
      (timespan_Compare p_a p_b).bind fun r10 =>
      if (((IntKind.wrap .i64 (r9.2.2 + r10.2)) != 0) || (!(r9.2.1 == (r10.1 == 0)))) = true then
      some false
    else
      if (!r9.2.1) = true then
        (if ((r10.1 == (-1)) == (decide (p_a.high < p_b.low))) = true then (law03_awake).bind fun r11 =>
          some r11 else some false).bind fun c1 =>
          some c1
      else
        (timespan_Within r9.1 p_a).bind fun r12 =>
          (timespan_Within r9.1 p_b).bind fun r13 =>
          (if ((((IntKind.wrap .i64 (r12.2 + r13.2)) == 0) && r12.1) && r13.1) = true then (law03_awake).bind fun r14 =>
          some r14 else some false).bind fun c2 =>
          some c2) fun k1 =>
      law03_TimespanAgrees_loop1 p_a p_b r7 k1 (Int.toNat ((([p_a, p_b] : List Span).length : Int) - 0) + 1) 0

def law03_TimespanSums (p_l : (List Span)) : Option Bool :=
  if (decide ((p_l.length : Int) > 512)) = true then
  (law03_awake).bind fun r1 =>
    some r1
  else
  (timespan_Sum p_l).bind fun r2 =>
    (ref03_Sum p_l).bind fun r3 =>
    (if ((r2.1 == r3.1) && (r2.2 == r3.2)) = true then (law03_awake).bind fun r4 =>
    some r4 else some false).bind fun c1 =>
    some c1

end Go.Proofs.YtllhdlnnlckceaaDoor.W
