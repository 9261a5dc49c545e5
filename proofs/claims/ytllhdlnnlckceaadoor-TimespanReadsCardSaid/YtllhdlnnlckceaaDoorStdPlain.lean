/- The plain functions. Written by our own program gen.py; Lean checks it. -/
import Derived.Test.YtllhdlnnlckceaaDoorStdTypes
set_option linter.unusedVariables false
set_option maxRecDepth 100000
namespace Go.Proofs.YtllhdlnnlckceaaDoor.W
open Go Go.RowKit
def internal_strconv_Atoi_loop1 (s2 : (List UInt8)) (k3 : (Int → Option (Int × Unit))) : Nat → Int → Int → Option (Int × Unit)
  | 0, _, _ => none
  | m1 + 1, i1, i2 => if (decide (i2 < ((bytesI s2).length : Int))) = true then
      (at? (bytesI s2) i2).bind fun x1 =>
        if (decide ((IntKind.wrap .u8 (x1 - 48)) > 9)) = true then
        none
      else
        internal_strconv_Atoi_loop1 s2 k3 m1 (IntKind.wrap .i64 ((IntKind.wrap .i64 (i1 * 10)) + (IntKind.wrap .i64 (IntKind.wrap .u8 (x1 - 48))))) (IntKind.wrap .i64 (i2 + 1))
    else
      k3 i1
def internal_strconv_Atoi (p_s : (List UInt8)) : Option (Int × Unit) :=
  joinK (none) fun k1 =>
  if ((decide ((0 : Int) < (p_s.length : Int))) && (decide ((p_s.length : Int) < 19))) = true then
  joinK (fun (s2 : (List UInt8)) =>
      joinK (fun (i3 : Int) =>
          joinK (fun (i4 : Int) =>
              some (i4, ())) fun k4 =>
            (byteAt p_s 0).bind fun b3 =>
            if ((b3.toNat : Int) == 45) = true then
            k4 (IntKind.wrap .i64 (0 - i3))
          else
            k4 i3) fun k3 =>
        internal_strconv_Atoi_loop1 s2 k3 (Int.toNat (((bytesI s2).length : Int) - 0) + 1) 0 0) fun k2 =>
    (byteAt p_s 0).bind fun b1 =>
    (if ((b1.toNat : Int) == 45) = true then some true else (byteAt p_s 0).bind fun b2 =>
    some ((b2.toNat : Int) == 43)).bind fun c1 =>
    if c1 = true then
    (cut p_s 1 (p_s.length : Int)).bind fun s1 =>
      if (decide ((s1.length : Int) < 1)) = true then
      none
    else
      k2 s1
  else
    k2 p_s
  else
  k1

def strconv_Atoi (p_s : (List UInt8)) : Option (Int × Unit) :=
  (internal_strconv_Atoi p_s).bind fun r1 =>
  some (r1.1, ())

def strings_asciiSet_contains (p_as : (List Bool)) (p_c : Int) : Option Bool :=
  (at? p_as p_c).bind fun x1 =>
  some x1

def strings_trimLeftASCII_loop1 (p_as : (List Bool)) (k1 : ((List UInt8) → Option (List UInt8))) : Nat → (List UInt8) → Option (List UInt8)
  | 0, _ => none
  | m1 + 1, s1 => if (decide ((s1.length : Int) > 0)) = true then
      (byteAt s1 0).bind fun b1 =>
        (strings_asciiSet_contains p_as (b1.toNat : Int)).bind fun r1 =>
        if (!r1) = true then
        k1 s1
      else
        (cut s1 1 (s1.length : Int)).bind fun s2 =>
          strings_trimLeftASCII_loop1 p_as k1 m1 s2
    else
      k1 s1
def strings_trimLeftASCII (p_s : (List UInt8)) (p_as : (List Bool)) : Option (List UInt8) :=
  joinK (fun (s3 : (List UInt8)) =>
    some s3) fun k1 =>
  strings_trimLeftASCII_loop1 p_as k1 (p_s.length + 1) p_s

def strings_trimRightASCII_loop1 (p_as : (List Bool)) (k1 : ((List UInt8) → Option (List UInt8))) : Nat → (List UInt8) → Option (List UInt8)
  | 0, _ => none
  | m1 + 1, s1 => if (decide ((s1.length : Int) > 0)) = true then
      (byteAt s1 (IntKind.wrap .i64 ((s1.length : Int) - 1))).bind fun b1 =>
        (strings_asciiSet_contains p_as (b1.toNat : Int)).bind fun r1 =>
        if (!r1) = true then
        k1 s1
      else
        (cut s1 0 (IntKind.wrap .i64 ((s1.length : Int) - 1))).bind fun s2 =>
          strings_trimRightASCII_loop1 p_as k1 m1 s2
    else
      k1 s1
def strings_trimRightASCII (p_s : (List UInt8)) (p_as : (List Bool)) : Option (List UInt8) :=
  joinK (fun (s3 : (List UInt8)) =>
    some s3) fun k1 =>
  strings_trimRightASCII_loop1 p_as k1 (p_s.length + 1) p_s

end Go.Proofs.YtllhdlnnlckceaaDoor.W
