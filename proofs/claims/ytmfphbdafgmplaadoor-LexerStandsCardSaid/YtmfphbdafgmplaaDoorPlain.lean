/- The plain functions. Written by our own program gen.py; Lean checks it. -/
import Derived.Test.YtmfphbdafgmplaaDoorTypes
import Derived.Test.YtmfphbdafgmplaaDoorExt
set_option linter.unusedVariables false
set_option maxRecDepth 100000
set_option maxHeartbeats 4000000
namespace Go.Proofs.YtmfphbdafgmplaaDoor.W
open Go Go.RowKit
def internal_stringslite_HasPrefix (p_s : (List UInt8)) (p_prefix : (List UInt8)) : Option Bool :=
  (if (decide ((p_s.length : Int) ≥ (p_prefix.length : Int))) = true then (cut p_s 0 (p_prefix.length : Int)).bind fun s1 =>
  some (s1 == p_prefix) else some false).bind fun c1 =>
  some c1

def internal_stringslite_CutPrefix (p_s : (List UInt8)) (p_prefix : (List UInt8)) : Option ((List UInt8) × Bool) :=
  (internal_stringslite_HasPrefix p_s p_prefix).bind fun r1 =>
  if (!r1) = true then
  some (p_s, false)
  else
  (cut p_s (p_prefix.length : Int) (p_s.length : Int)).bind fun s1 =>
    some (s1, true)

def strings_CutPrefix (p_s : (List UInt8)) (p_prefix : (List UInt8)) : Option ((List UInt8) × Bool) :=
  (internal_stringslite_CutPrefix p_s p_prefix).bind fun r1 =>
  some (r1.1, r1.2)

def internal_stringslite_HasSuffix (p_s : (List UInt8)) (p_suffix : (List UInt8)) : Option Bool :=
  (if (decide ((p_s.length : Int) ≥ (p_suffix.length : Int))) = true then (cut p_s (IntKind.wrap .i64 ((p_s.length : Int) - (p_suffix.length : Int))) (p_s.length : Int)).bind fun s1 =>
  some (s1 == p_suffix) else some false).bind fun c1 =>
  some c1

def internal_stringslite_CutSuffix (p_s : (List UInt8)) (p_suffix : (List UInt8)) : Option ((List UInt8) × Bool) :=
  (internal_stringslite_HasSuffix p_s p_suffix).bind fun r1 =>
  if (!r1) = true then
  some (p_s, false)
  else
  (cut p_s 0 (IntKind.wrap .i64 ((p_s.length : Int) - (p_suffix.length : Int)))).bind fun s1 =>
    some (s1, true)

def strings_CutSuffix (p_s : (List UInt8)) (p_suffix : (List UInt8)) : Option ((List UInt8) × Bool) :=
  (internal_stringslite_CutSuffix p_s p_suffix).bind fun r1 =>
  some (r1.1, r1.2)

def strings_HasSuffix (p_s : (List UInt8)) (p_suffix : (List UInt8)) : Option Bool :=
  (internal_stringslite_HasSuffix p_s p_suffix).bind fun r1 =>
  some r1

def strings_Contains (p_s : (List UInt8)) (p_substr : (List UInt8)) : Option Bool :=
  (indexS p_s p_substr).bind fun r1 =>
  some (decide (r1 ≥ 0))

def internal_strconv_Atoi_loop1 (s2 : (List UInt8)) (k3 : (Int → Option (Int × Unit))) : Nat → Int → Int → Option (Int × Unit)
  | 0, _, _ => none
  | m1 + 1, i1, i2 => if (decide (i2 < ((bytesI s2).length : Int))) = true then
      (at? (bytesI s2) i2).bind fun x1 =>
        if (decide ((IntKind.wrap .u8 (x1 - 48)) > 9)) = true then
        none
      else
        internal_strconv_Atoi_loop1 s2 k3 m1 (IntKind.wrap .i64 ((IntKind.wrap .i64 (i1 * 10)) + (IntKind.wrap .i64 (IntKind.wrap .u8 (x1 - 48))))) (IntKind.wrap .i64 (i2 + 1))
    else
      k3 i1
def internal_strconv_Atoi (p_s : (List UInt8)) : Option (Int × Unit) :=
  joinK (none) fun k1 =>
  if ((decide ((0 : Int) < (p_s.length : Int))) && (decide ((p_s.length : Int) < 19))) = true then
  joinK (fun (s2 : (List UInt8)) =>
      joinK (fun (i3 : Int) =>
          joinK (fun (i4 : Int) =>
              some (i4, ())) fun k4 =>
            (byteAt p_s 0).bind fun b3 =>
            if ((b3.toNat : Int) == 45) = true then
            k4 (IntKind.wrap .i64 (0 - i3))
          else
            k4 i3) fun k3 =>
        internal_strconv_Atoi_loop1 s2 k3 (Int.toNat (((bytesI s2).length : Int) - 0) + 1) 0 0) fun k2 =>
    (byteAt p_s 0).bind fun b1 =>
    (if ((b1.toNat : Int) == 45) = true then some true else (byteAt p_s 0).bind fun b2 =>
    some ((b2.toNat : Int) == 43)).bind fun c1 =>
    if c1 = true then
    (cut p_s 1 (p_s.length : Int)).bind fun s1 =>
      if (decide ((s1.length : Int) < 1)) = true then
      none
    else
      k2 s1
  else
    k2 p_s
  else
  k1

def strconv_Atoi (p_s : (List UInt8)) : Option (Int × Unit) :=
  (internal_strconv_Atoi p_s).bind fun r1 =>
  some (r1.1, ())

def ref12_Short (p_s : (List UInt8)) : Option Bool :=
  some ((decide ((p_s.length : Int) ≤ 400)) || ((decide ((p_s.length : Int) > 4096)) && (decide ((p_s.length : Int) < 8192))))

def lexer_Position (p_text : (List UInt8)) (p_at : Int) : Option (Int × Int × Int) :=
  if (decide ((p_text.length : Int) > 4096)) = true then
  some (0, 0, 17)
  else
  if ((decide (p_at < 0)) || (decide (p_at > (p_text.length : Int)))) = true then
    some (0, 0, 2)
  else
    (cut p_text 0 p_at).bind fun s1 =>
      (countS s1 [10]).bind fun r1 =>
      (lastIdx s1 [10]).bind fun r2 =>
      some (r1, (IntKind.wrap .i64 ((IntKind.wrap .i64 (p_at - 1)) - r2)), 0)

def lexer_class_loop1 (p_b : Int) (k1 : (Option Int)) : Nat → Int → Option Int
  | 0, _ => none
  | m1 + 1, i1 => if (decide (i1 < 6)) = true then
      (at? lexer_ranges i1).bind fun x1 =>
        if ((decide (x1.a0 ≤ p_b)) && (decide (p_b ≤ x1.a1))) = true then
        some (IntKind.wrap .i64 x1.a2)
      else
        lexer_class_loop1 p_b k1 m1 (IntKind.wrap .i64 (i1 + 1))
    else
      k1
def lexer_class (p_b : Int) : Option Int :=
  joinK ((idxB [43, 45, 42, 47, 40, 41, 91, 93, 123, 125, 60, 62, 61, 44, 59, 58, 124, 38, 33, 35, 46] p_b).bind fun r1 =>
  if (decide (r1 ≥ 0)) = true then
  some 4
  else
  some 0) fun k1 =>
  lexer_class_loop1 p_b k1 (Int.toNat (6 - 0) + 1) 0

def lexer_run_loop2 (p_s : (List UInt8)) (p_classes : (List Int)) (i1 : Int) (k3 : (Bool → Option Int)) : Nat → Bool → Int → Option Int
  | 0, _, _ => none
  | m2 + 1, c1, i2 => if (decide (i2 < (p_classes.length : Int))) = true then
      (at? p_classes i2).bind fun x1 =>
        (if c1 = true then some true else (byteAt p_s i1).bind fun b1 =>
        (lexer_class (b1.toNat : Int)).bind fun r1 =>
        some (r1 == x1)).bind fun c2 =>
        lexer_run_loop2 p_s p_classes i1 k3 m2 c2 (IntKind.wrap .i64 (i2 + 1))
    else
      k3 c1
def lexer_run_loop1 (p_s : (List UInt8)) (p_classes : (List Int)) (k1 : (Option Int)) : Nat → Int → Option Int
  | 0, _ => none
  | m1 + 1, i1 => if (decide (i1 < (p_s.length : Int))) = true then
      joinK (lexer_run_loop1 p_s p_classes k1 m1 (IntKind.wrap .i64 (i1 + 1))) fun k2 =>
        joinK (fun (c3 : Bool) =>
          if (!c3) = true then
            some i1
          else
            k2) fun k3 =>
        lexer_run_loop2 p_s p_classes i1 k3 (Int.toNat ((p_classes.length : Int) - 0) + 1) false 0
    else
      k1
def lexer_run (p_s : (List UInt8)) (p_classes : (List Int)) : Option Int :=
  joinK (some (p_s.length : Int)) fun k1 =>
  lexer_run_loop1 p_s p_classes k1 (Int.toNat ((p_s.length : Int) - 0) + 1) 0

def lexer_Number (p_s : (List UInt8)) : Option Int :=
  (if (p_s == []) = true then some true else (lexer_run p_s ([2] : List Int)).bind fun r1 =>
  some (r1 != (p_s.length : Int))).bind fun c1 =>
  (if c1 = true then some true else (byteAt p_s 0).bind fun b2 =>
  some (((b2.toNat : Int) == 48) && (!(p_s == [48])))).bind fun c2 =>
  if c2 = true then
  some 3
  else
  if (decide ((p_s.length : Int) > 7)) = true then
    some 17
  else
    some 0

def lexer_Word (p_s : (List UInt8)) : Option Int :=
  (if (p_s == []) = true then some true else (byteAt p_s 0).bind fun b1 =>
  (lexer_class (b1.toNat : Int)).bind fun r1 =>
  some (r1 != 1)).bind fun c1 =>
  (if c1 = true then some true else (lexer_run p_s ([1, 2, 3] : List Int)).bind fun r2 =>
  some (r2 != (p_s.length : Int))).bind fun c2 =>
  if c2 = true then
  some 3
  else
  if (decide ((p_s.length : Int) > 24)) = true then
    some 17
  else
    some 0

def lexer_Scan_loop1 (p_text : (List UInt8)) (k1 : ((List Token) → Option ((List Token) × Int × Int))) : Nat → Int → (List Token) → Option ((List Token) × Int × Int)
  | 0, _, _ => none
  | m1 + 1, i1, l2 => if (decide (i1 < (p_text.length : Int))) = true then
      (byteAt p_text i1).bind fun b10 =>
        (lexer_class (b10.toNat : Int)).bind fun r1 =>
        if (r1 == 5) = true then
        lexer_Scan_loop1 p_text k1 m1 (IntKind.wrap .i64 (i1 + 1)) l2
      else
        if (r1 == 0) = true then
          if ((4 : Int) != 0) = true then
            some ([], i1, 4)
          else
            (appO 32 l2 ([(Token.mk 0 [] i1)] : List Token)).bind fun _ =>
              some ((l2 ++ ([(Token.mk 0 [] i1)] : List Token)), 0, 0)
        else
          if (r1 == 1) = true then
            (cut p_text i1 (p_text.length : Int)).bind fun s1 =>
              (lexer_run s1 ([1, 2, 3] : List Int)).bind fun r2 =>
              (cut p_text i1 (IntKind.wrap .i64 (i1 + (if r2 > 1 then r2 else 1)))).bind fun s2 =>
              joinK (fun (i2 : Int) =>
                if (i2 != 0) = true then
                  some ([], i1, i2)
                else
                  (appO 32 l2 ([(Token.mk 0 s2 i1)] : List Token)).bind fun _ =>
                    if (i2 != 0) = true then
                    some ((l2 ++ ([(Token.mk 0 s2 i1)] : List Token)), 0, 0)
                  else
                    lexer_Scan_loop1 p_text k1 m1 (IntKind.wrap .i64 (i1 + (if r2 > 1 then r2 else 1))) (l2 ++ ([(Token.mk 0 s2 i1)] : List Token))) fun k2 =>
              (if (s2 == []) = true then some true else (byteAt s2 0).bind fun b15 =>
              (lexer_class (b15.toNat : Int)).bind fun r3 =>
              some (r3 != 1)).bind fun c1 =>
              (if c1 = true then some true else (lexer_run s2 ([1, 2, 3] : List Int)).bind fun r4 =>
              some (r4 != (s2.length : Int))).bind fun c2 =>
              if c2 = true then
              k2 3
            else
              if (decide ((s2.length : Int) > 24)) = true then
                k2 17
              else
                k2 0
          else
            if (r1 == 2) = true then
              (cut p_text i1 (p_text.length : Int)).bind fun s3 =>
                (lexer_run s3 ([2] : List Int)).bind fun r5 =>
                (cut p_text i1 (IntKind.wrap .i64 (i1 + (if r5 > 1 then r5 else 1)))).bind fun s4 =>
                joinK (fun (i3 : Int) =>
                  if (i3 != 0) = true then
                    some ([], i1, i3)
                  else
                    (appO 32 l2 ([(Token.mk 1 s4 i1)] : List Token)).bind fun _ =>
                      if (i3 != 0) = true then
                      some ((l2 ++ ([(Token.mk 1 s4 i1)] : List Token)), 0, 0)
                    else
                      lexer_Scan_loop1 p_text k1 m1 (IntKind.wrap .i64 (i1 + (if r5 > 1 then r5 else 1))) (l2 ++ ([(Token.mk 1 s4 i1)] : List Token))) fun k3 =>
                (if (s4 == []) = true then some true else (lexer_run s4 ([2] : List Int)).bind fun r6 =>
                some (r6 != (s4.length : Int))).bind fun c3 =>
                (if c3 = true then some true else (byteAt s4 0).bind fun b21 =>
                some (((b21.toNat : Int) == 48) && (!(s4 == [48])))).bind fun c4 =>
                if c4 = true then
                k3 3
              else
                if (decide ((s4.length : Int) > 7)) = true then
                  k3 17
                else
                  k3 0
            else
              if (r1 == 3) = true then
                if ((4 : Int) != 0) = true then
                  some ([], i1, 4)
                else
                  (appO 32 l2 ([(Token.mk 0 [] i1)] : List Token)).bind fun _ =>
                    some ((l2 ++ ([(Token.mk 0 [] i1)] : List Token)), 0, 0)
              else
                if (r1 == 4) = true then
                  (cut p_text i1 (p_text.length : Int)).bind fun s5 =>
                    (lexer_run s5 []).bind fun r7 =>
                    (cut p_text i1 (IntKind.wrap .i64 (i1 + (if r7 > 1 then r7 else 1)))).bind fun s6 =>
                    if ((0 : Int) != 0) = true then
                    some ([], i1, 0)
                  else
                    (appO 32 l2 ([(Token.mk 2 s6 i1)] : List Token)).bind fun _ =>
                      if ((0 : Int) != 0) = true then
                      some ((l2 ++ ([(Token.mk 2 s6 i1)] : List Token)), 0, 0)
                    else
                      lexer_Scan_loop1 p_text k1 m1 (IntKind.wrap .i64 (i1 + (if r7 > 1 then r7 else 1))) (l2 ++ ([(Token.mk 2 s6 i1)] : List Token))
                else
                  if (r1 == 5) = true then
                    if ((4 : Int) != 0) = true then
                      some ([], i1, 4)
                    else
                      (appO 32 l2 ([(Token.mk 0 [] i1)] : List Token)).bind fun _ =>
                        some ((l2 ++ ([(Token.mk 0 [] i1)] : List Token)), 0, 0)
                  else
                    none
    else
      k1 l2
def lexer_Scan (p_text : (List UInt8)) : Option ((List Token) × Int × Int) :=
  if (decide ((p_text.length : Int) > 4096)) = true then
  some ([], 0, 17)
  else
  joinK (fun (l9 : (List Token)) =>
      if ((0 : Int) != 0) = true then
        some ([], (p_text.length : Int), 0)
      else
        (appO 32 l9 ([(Token.mk 3 [] (p_text.length : Int))] : List Token)).bind fun _ =>
          some ((l9 ++ ([(Token.mk 3 [] (p_text.length : Int))] : List Token)), 0, 0)) fun k1 =>
    lexer_Scan_loop1 p_text k1 (Int.toNat ((p_text.length : Int) - 0) + 1) 0 ([] : List Token)

def lexer_Value (p_s : (List UInt8)) : Option (Int × Int) :=
  (strings_CutPrefix p_s [45]).bind fun r1 =>
  (lexer_Number r1.1).bind fun r2 =>
  if (r2 != 0) = true then
  some (0, r2)
  else
  if (r1.2 && (r1.1 == [48])) = true then
    some (0, 3)
  else
    (strconv_Atoi p_s).bind fun r3 =>
      some (r3.1, 0)

def lexer_check (p_t : Token) (p_last : Bool) : Option Int :=
  joinK (some 0) fun k1 =>
  if (p_t.kind == 0) = true then
  (lexer_Word p_t.text).bind fun r1 =>
    some r1
  else
  if (p_t.kind == 1) = true then
    (lexer_Number p_t.text).bind fun r2 =>
      some r2
  else
    if (p_t.kind == 2) = true then
      (if ((p_t.text.length : Int) != 1) = true then some true else (byteAt p_t.text 0).bind fun b2 =>
        (lexer_class (b2.toNat : Int)).bind fun r3 =>
        some (r3 != 4)).bind fun c1 =>
        if c1 = true then
        some 3
      else
        k1
    else
      if (p_t.kind == 3) = true then
        if (!p_last) = true then
          some 9
        else
          if (!(p_t.text == [])) = true then
            some 3
          else
            k1
      else
        some 1

def lexer_Join_loop1 (p_l : (List Token)) (k1 : ((List UInt8) → Option ((List UInt8) × Int))) : Nat → Bool → Int → (List UInt8) → Option ((List UInt8) × Int)
  | 0, _, _, _ => none
  | m1 + 1, c1, i1, l1 => if (decide (i1 < (p_l.length : Int))) = true then
      (at? p_l i1).bind fun x1 =>
        (lexer_check x1 (i1 == (IntKind.wrap .i64 ((p_l.length : Int) - 1)))).bind fun r1 =>
        if (r1 != 0) = true then
        some ([], r1)
      else
        joinK (fun (l3 : (List UInt8)) =>
            (appO 1 l3 x1.text).bind fun _ =>
              lexer_Join_loop1 p_l k1 m1 ((x1.kind == 0) || (x1.kind == 1)) (IntKind.wrap .i64 (i1 + 1)) (l3 ++ x1.text)) fun k2 =>
          if (c1 && ((x1.kind == 0) || (x1.kind == 1))) = true then
          (appO 1 l1 ([32] : List UInt8)).bind fun _ =>
            k2 (l1 ++ ([32] : List UInt8))
        else
          k2 l1
    else
      k1 l1
def lexer_Join (p_l : (List Token)) : Option ((List UInt8) × Int) :=
  if (decide ((p_l.length : Int) > 4097)) = true then
  some ([], 5)
  else
  joinK (fun (l5 : (List UInt8)) =>
      if (decide ((l5.length : Int) > 4096)) = true then
        some ([], 17)
      else
        some (l5, 0)) fun k1 =>
    lexer_Join_loop1 p_l k1 (Int.toNat ((p_l.length : Int) - 0) + 1) false 0 ([] : List UInt8)

def lexer_Lines (p_text : (List UInt8)) : Option ((List (List UInt8)) × Int) :=
  if (p_text == []) = true then
  some ([], 0)
  else
  (strings_CutSuffix p_text [10]).bind fun r1 =>
    if (!r1.2) = true then
    some ([], 18)
  else
    (splitS r1.1 [10]).bind fun r2 =>
      some (r2, 0)

def slices_Equal_stringstring_loop1 (p_s1 : (List (List UInt8))) (p_s2 : (List (List UInt8))) (k1 : (Option Bool)) : Nat → Int → Option Bool
  | 0, _ => none
  | m1 + 1, i1 => if (decide (i1 < (p_s1.length : Int))) = true then
      (at? p_s1 i1).bind fun x1 =>
        (at? p_s2 i1).bind fun x2 =>
        if (!(x1 == x2)) = true then
        some false
      else
        slices_Equal_stringstring_loop1 p_s1 p_s2 k1 m1 (IntKind.wrap .i64 (i1 + 1))
    else
      k1
def slices_Equal_stringstring (p_s1 : (List (List UInt8))) (p_s2 : (List (List UInt8))) : Option Bool :=
  if ((p_s1.length : Int) != (p_s2.length : Int)) = true then
  some false
  else
  joinK (some true) fun k1 =>
    slices_Equal_stringstring_loop1 p_s1 p_s2 k1 (Int.toNat ((p_s1.length : Int) - 0) + 1) 0

def law12_awake  : Option Bool :=
  (lexer_Scan [65, 43, 32, 119, 97, 105, 116, 32, 50, 53, 48, 59]).bind fun r1 =>
  (lexer_Join r1.1).bind fun r2 =>
  (lexer_Scan [97, 32, 48, 48, 55]).bind fun r3 =>
  (lexer_Scan [97, 32, 36]).bind fun r4 =>
  (lexer_Value [45, 49, 50]).bind fun r5 =>
  (lexer_Value [49, 50, 51, 52, 53, 54, 55, 56]).bind fun r6 =>
  (lexer_Position [97, 98, 10, 99, 100, 10] 4).bind fun r7 =>
  (lexer_Lines [97, 98, 10, 99, 100, 10]).bind fun r8 =>
  if (((((((IntKind.wrap .i64 ((IntKind.wrap .i64 ((IntKind.wrap .i64 ((IntKind.wrap .i64 (r1.2.2 + r2.2)) + r5.2)) + r7.2.2)) + r8.2)) != 0) || (r3.2.2 != 3)) || (r4.2.2 != 4)) || (r6.2 != 17)) || (r3.2.1 != 2)) || (r4.2.1 != 2)) = true then
  some false
  else
  (if ((r1.1.length : Int) == 6) = true then (at? r1.1 5).bind fun x1 =>
    some (x1 == (Token.mk 3 [] 12)) else some false).bind fun c1 =>
    (if ((((c1 && (r2.1 == [65, 43, 119, 97, 105, 116, 32, 50, 53, 48, 59])) && (r5.1 == (-12))) && (r7.1 == 1)) && (r7.2.1 == 1)) = true then (slices_Equal_stringstring r8.1 ([[97, 98], [99, 100]] : List (List UInt8))).bind fun r9 =>
    some r9 else some false).bind fun c2 =>
    some c2

def ref12_Position_loop1 (p_text : (List UInt8)) (p_at : Int) (k1 : (Int → Int → Option (Int × Int × Int))) : Nat → Int → Int → Int → Option (Int × Int × Int)
  | 0, _, _, _ => none
  | m1 + 1, i1, i2, i3 => if (decide (i3 < p_at)) = true then
      joinK (fun (i4 : Int) (i5 : Int) =>
          ref12_Position_loop1 p_text p_at k1 m1 i4 i5 (IntKind.wrap .i64 (i3 + 1))) fun k2 =>
        (byteAt p_text i3).bind fun b1 =>
        if ((b1.toNat : Int) == 10) = true then
        k2 (IntKind.wrap .i64 (i1 + 1)) 0
      else
        k2 i1 (IntKind.wrap .i64 (i2 + 1))
    else
      k1 i1 i2
def ref12_Position (p_text : (List UInt8)) (p_at : Int) : Option (Int × Int × Int) :=
  if (decide ((p_text.length : Int) > 4096)) = true then
  some (0, 0, 17)
  else
  if ((decide (p_at < 0)) || (decide (p_at > (p_text.length : Int)))) = true then
    some (0, 0, 2)
  else
    joinK (fun (i6 : Int) (i7 : Int) =>
        some (i6, i7, 0)) fun k1 =>
      ref12_Position_loop1 p_text p_at k1 (Int.toNat (p_at - 0) + 1) 0 0 0

def law12_LexerPlaces (p_s : (List UInt8)) (p_at : Int) : Option Bool :=
  (ref12_Short p_s).bind fun r1 =>
  if (!r1) = true then
  (law12_awake).bind fun r2 =>
    some r2
  else
  (lexer_Position p_s p_at).bind fun r3 =>
    (ref12_Position p_s p_at).bind fun r4 =>
    (law12_awake).bind fun r5 =>
    some (((r5 && (r3.1 == r4.1)) && (r3.2.1 == r4.2.1)) && (r3.2.2 == r4.2.2))

def ref12_Letter (p_b : Int) : Option Bool :=
  some (((decide (p_b ≥ 97)) && (decide (p_b ≤ 122))) || ((decide (p_b ≥ 65)) && (decide (p_b ≤ 90))))

def ref12_Digit (p_b : Int) : Option Bool :=
  some ((decide (p_b ≥ 48)) && (decide (p_b ≤ 57)))

def ref12_inner (p_b : Int) : Option Bool :=
  (ref12_Letter p_b).bind fun r1 =>
  (if r1 = true then some true else (ref12_Digit p_b).bind fun r2 =>
  some r2).bind fun c1 =>
  some (c1 || (p_b == 95))

def ref12_Word_loop1 (p_s : (List UInt8)) (k1 : (Option Int)) : Nat → Int → Option Int
  | 0, _ => none
  | m1 + 1, i1 => if (decide (i1 < (p_s.length : Int))) = true then
      (byteAt p_s i1).bind fun b2 =>
        (ref12_inner (b2.toNat : Int)).bind fun r2 =>
        if (!r2) = true then
        some 3
      else
        ref12_Word_loop1 p_s k1 m1 (IntKind.wrap .i64 (i1 + 1))
    else
      k1
def ref12_Word (p_s : (List UInt8)) : Option Int :=
  (if ((p_s.length : Int) == 0) = true then some true else (byteAt p_s 0).bind fun b1 =>
  (ref12_Letter (b1.toNat : Int)).bind fun r1 =>
  some (!r1)).bind fun c1 =>
  if c1 = true then
  some 3
  else
  joinK (if (decide ((p_s.length : Int) > 24)) = true then
    some 17
  else
    some 0) fun k1 =>
    ref12_Word_loop1 p_s k1 (Int.toNat ((p_s.length : Int) - 0) + 1) 0

def ref12_Number_loop1 (p_s : (List UInt8)) (k1 : (Option Int)) : Nat → Int → Option Int
  | 0, _ => none
  | m1 + 1, i1 => if (decide (i1 < (p_s.length : Int))) = true then
      (byteAt p_s i1).bind fun b2 =>
        (ref12_Digit (b2.toNat : Int)).bind fun r1 =>
        if (!r1) = true then
        some 3
      else
        ref12_Number_loop1 p_s k1 m1 (IntKind.wrap .i64 (i1 + 1))
    else
      k1
def ref12_Number (p_s : (List UInt8)) : Option Int :=
  (if ((p_s.length : Int) == 0) = true then some true else (if (decide ((p_s.length : Int) > 1)) = true then (byteAt p_s 0).bind fun b1 =>
  some ((b1.toNat : Int) == 48) else some false).bind fun c2 =>
  some c2).bind fun c1 =>
  if c1 = true then
  some 3
  else
  joinK (if (decide ((p_s.length : Int) > 7)) = true then
    some 17
  else
    some 0) fun k1 =>
    ref12_Number_loop1 p_s k1 (Int.toNat ((p_s.length : Int) - 0) + 1) 0

def ref12_Sign_loop1 (p_b : Int) (k1 : (Option Bool)) : Nat → Int → Option Bool
  | 0, _ => none
  | m1 + 1, i1 => if (decide (i1 < 21)) = true then
      (byteAt [43, 45, 42, 47, 40, 41, 91, 93, 123, 125, 60, 62, 61, 44, 59, 58, 124, 38, 33, 35, 46] i1).bind fun b1 =>
        if ((b1.toNat : Int) == p_b) = true then
        some true
      else
        ref12_Sign_loop1 p_b k1 m1 (IntKind.wrap .i64 (i1 + 1))
    else
      k1
def ref12_Sign (p_b : Int) : Option Bool :=
  joinK (some false) fun k1 =>
  ref12_Sign_loop1 p_b k1 (Int.toNat (21 - 0) + 1) 0

def ref12_next_loop1 (p_s : (List UInt8)) (k2 : (Int → Option (Int × Int × Int))) : Nat → Int → Option (Int × Int × Int)
  | 0, _ => none
  | m1 + 1, i1 => (if (decide (i1 < (p_s.length : Int))) = true then (byteAt p_s i1).bind fun b2 =>
      (ref12_inner (b2.toNat : Int)).bind fun r2 =>
      some r2 else some false).bind fun c1 =>
      if c1 = true then
      ref12_next_loop1 p_s k2 m1 (IntKind.wrap .i64 (i1 + 1))
    else
      k2 i1
def ref12_next_loop2 (p_s : (List UInt8)) (k4 : (Int → Option (Int × Int × Int))) : Nat → Int → Option (Int × Int × Int)
  | 0, _ => none
  | m2 + 1, i3 => (if (decide (i3 < (p_s.length : Int))) = true then (byteAt p_s i3).bind fun b4 =>
      (ref12_Digit (b4.toNat : Int)).bind fun r5 =>
      some r5 else some false).bind fun c2 =>
      if c2 = true then
      ref12_next_loop2 p_s k4 m2 (IntKind.wrap .i64 (i3 + 1))
    else
      k4 i3
def ref12_next (p_s : (List UInt8)) : Option (Int × Int × Int) :=
  joinK (joinK ((byteAt p_s 0).bind fun b5 =>
  (ref12_Sign (b5.toNat : Int)).bind fun r7 =>
  if r7 = true then
  some (2, 1, 0)
  else
  some (0, 0, 4)) fun k3 =>
  (byteAt p_s 0).bind fun b3 =>
  (ref12_Digit (b3.toNat : Int)).bind fun r4 =>
  if r4 = true then
  joinK (fun (i4 : Int) =>
      (cut p_s 0 i4).bind fun s2 =>
        (ref12_Number s2).bind fun r6 =>
        some (1, i4, r6)) fun k4 =>
    ref12_next_loop2 p_s k4 (p_s.length + 1) 0
  else
  k3) fun k1 =>
  (byteAt p_s 0).bind fun b1 =>
  (ref12_Letter (b1.toNat : Int)).bind fun r1 =>
  if r1 = true then
  joinK (fun (i2 : Int) =>
      (cut p_s 0 i2).bind fun s1 =>
        (ref12_Word s1).bind fun r3 =>
        some (0, i2, r3)) fun k2 =>
    ref12_next_loop1 p_s k2 (p_s.length + 1) 0
  else
  k1

def ref12_Scan_loop1 (p_text : (List UInt8)) (k1 : ((List Token) → Option ((List Token) × Int × Int))) : Nat → Int → (List Token) → Option ((List Token) × Int × Int)
  | 0, _, _ => none
  | m1 + 1, i1, l1 => if (decide (i1 < (p_text.length : Int))) = true then
      (byteAt p_text i1).bind fun b1 =>
        (if ((b1.toNat : Int) == 32) = true then some true else (byteAt p_text i1).bind fun b2 =>
        some ((b2.toNat : Int) == 10)).bind fun c1 =>
        if c1 = true then
        ref12_Scan_loop1 p_text k1 m1 (IntKind.wrap .i64 (i1 + 1)) l1
      else
        (cut p_text i1 (p_text.length : Int)).bind fun s1 =>
          (ref12_next s1).bind fun r1 =>
          if (r1.2.2 != 0) = true then
          some ([], i1, r1.2.2)
        else
          (cut p_text i1 (IntKind.wrap .i64 (i1 + r1.2.1))).bind fun s2 =>
            (appO 32 l1 ([(Token.mk r1.1 s2 i1)] : List Token)).bind fun _ =>
            ref12_Scan_loop1 p_text k1 m1 (IntKind.wrap .i64 (i1 + r1.2.1)) (l1 ++ ([(Token.mk r1.1 s2 i1)] : List Token))
    else
      k1 l1
def ref12_Scan (p_text : (List UInt8)) : Option ((List Token) × Int × Int) :=
  if (decide ((p_text.length : Int) > 4096)) = true then
  some ([], 0, 17)
  else
  joinK (fun (l3 : (List Token)) =>
      (appO 32 l3 ([(Token.mk 3 [] (p_text.length : Int))] : List Token)).bind fun _ =>
        some ((l3 ++ ([(Token.mk 3 [] (p_text.length : Int))] : List Token)), 0, 0)) fun k1 =>
    ref12_Scan_loop1 p_text k1 (Int.toNat ((p_text.length : Int) - 0) + 1) 0 ([] : List Token)

def slices_Equal_api_Tokenapi_Token_loop1 (p_s1 : (List Token)) (p_s2 : (List Token)) (k1 : (Option Bool)) : Nat → Int → Option Bool
  | 0, _ => none
  | m1 + 1, i1 => if (decide (i1 < (p_s1.length : Int))) = true then
      (at? p_s1 i1).bind fun x1 =>
        (at? p_s2 i1).bind fun x2 =>
        if (!(x1 == x2)) = true then
        some false
      else
        slices_Equal_api_Tokenapi_Token_loop1 p_s1 p_s2 k1 m1 (IntKind.wrap .i64 (i1 + 1))
    else
      k1
def slices_Equal_api_Tokenapi_Token (p_s1 : (List Token)) (p_s2 : (List Token)) : Option Bool :=
  if ((p_s1.length : Int) != (p_s2.length : Int)) = true then
  some false
  else
  joinK (some true) fun k1 =>
    slices_Equal_api_Tokenapi_Token_loop1 p_s1 p_s2 k1 (Int.toNat ((p_s1.length : Int) - 0) + 1) 0

def law12_LexerScans (p_s : (List UInt8)) : Option Bool :=
  (ref12_Short p_s).bind fun r1 =>
  if (!r1) = true then
  (law12_awake).bind fun r2 =>
    some r2
  else
  (lexer_Scan p_s).bind fun r3 =>
    (ref12_Scan p_s).bind fun r4 =>
    (law12_awake).bind fun r5 =>
    (if r5 = true then (slices_Equal_api_Tokenapi_Token r3.1 r4.1).bind fun r6 =>
    some r6 else some false).bind fun c1 =>
    some ((c1 && (r3.2.1 == r4.2.1)) && (r3.2.2 == r4.2.2))

def ref12_Digits_loop1 (k1 : ((List UInt8) → Option (List UInt8))) : Nat → Int → (List UInt8) → Option (List UInt8)
  | 0, _, _ => none
  | m1 + 1, i1, s2 => if (decide (i1 > 0)) = true then
      (cut [48, 49, 50, 51, 52, 53, 54, 55, 56, 57] (Int.tmod i1 10) (IntKind.wrap .i64 ((Int.tmod i1 10) + 1))).bind fun s3 =>
        (catO s3 s2).bind fun s4 =>
        ref12_Digits_loop1 k1 m1 (IntKind.wrap .i64 (Int.tdiv i1 10)) s4
    else
      k1 s2
def ref12_Digits (p_n : Int) : Option (List UInt8) :=
  (cut [48, 49, 50, 51, 52, 53, 54, 55, 56, 57] (Int.tmod p_n 10) (IntKind.wrap .i64 ((Int.tmod p_n 10) + 1))).bind fun s1 =>
  joinK (fun (s5 : (List UInt8)) =>
    some s5) fun k1 =>
  ref12_Digits_loop1 k1 (p_n.toNat + 2) (IntKind.wrap .i64 (Int.tdiv p_n 10)) s1

def law12_LexerNumbers (p_k : Int) : Option Bool :=
  (ref12_Digits (Int.tmod (IntKind.wrap .i64 p_k) 10000000)).bind fun r1 =>
  (lexer_Value r1).bind fun r2 =>
  (catO [45] r1).bind fun s1 =>
  (lexer_Value s1).bind fun r3 =>
  (if ((r2.2 != 0) || (r2.1 != (Int.tmod (IntKind.wrap .i64 p_k) 10000000))) = true then some true else (lexer_Number r1).bind fun r4 =>
  some (r4 != 0)).bind fun c1 =>
  (if c1 = true then some true else (lexer_Word r1).bind fun r5 =>
  some (r5 != 3)).bind fun c2 =>
  if c2 = true then
  some false
  else
  if ((Int.tmod (IntKind.wrap .i64 p_k) 10000000) == 0) = true then
    (if (r3.2 == 3) = true then (law12_awake).bind fun r6 =>
      some r6 else some false).bind fun c3 =>
      some c3
  else
    (if ((r3.2 == 0) && (r3.1 == (IntKind.wrap .i64 (0 - (Int.tmod (IntKind.wrap .i64 p_k) 10000000))))) = true then (law12_awake).bind fun r7 =>
      some r7 else some false).bind fun c4 =>
      some c4

def ref12_Few_loop1 (p_l : (List Token)) (k1 : (Option Bool)) : Nat → Int → Option Bool
  | 0, _ => none
  | m1 + 1, i1 => if ((decide (i1 < (p_l.length : Int))) && (decide (i1 < 40))) = true then
      (at? p_l i1).bind fun x1 =>
        if (decide ((x1.text.length : Int) > 60)) = true then
        some false
      else
        ref12_Few_loop1 p_l k1 m1 (IntKind.wrap .i64 (i1 + 1))
    else
      k1
def ref12_Few (p_l : (List Token)) : Option Bool :=
  joinK (some ((decide ((p_l.length : Int) ≤ 40)) || ((decide ((p_l.length : Int) > 4097)) && (decide ((p_l.length : Int) < 8192))))) fun k1 =>
  ref12_Few_loop1 p_l k1 42 0

def ref12_FewTexts_loop1 (p_l : (List (List UInt8))) (k1 : (Option Bool)) : Nat → Int → Option Bool
  | 0, _ => none
  | m1 + 1, i1 => if ((decide (i1 < (p_l.length : Int))) && (decide (i1 < 40))) = true then
      (at? p_l i1).bind fun x1 =>
        if (decide ((x1.length : Int) > 200)) = true then
        some false
      else
        ref12_FewTexts_loop1 p_l k1 m1 (IntKind.wrap .i64 (i1 + 1))
    else
      k1
def ref12_FewTexts (p_l : (List (List UInt8))) : Option Bool :=
  joinK (some (decide ((p_l.length : Int) ≤ 40))) fun k1 =>
  ref12_FewTexts_loop1 p_l k1 42 0

def ref12_token (p_t : Token) (p_last : Bool) : Option Int :=
  if (p_t.kind == 0) = true then
  (ref12_Word p_t.text).bind fun r1 =>
    some r1
  else
  if (p_t.kind == 1) = true then
    (ref12_Number p_t.text).bind fun r2 =>
      some r2
  else
    if (p_t.kind == 2) = true then
      (if ((p_t.text.length : Int) != 1) = true then some true else (byteAt p_t.text 0).bind fun b2 =>
        (ref12_Sign (b2.toNat : Int)).bind fun r3 =>
        some (!r3)).bind fun c1 =>
        if c1 = true then
        some 3
      else
        some 0
    else
      if (p_t.kind == 3) = true then
        if (!p_last) = true then
          some 9
        else
          if (!(p_t.text == [])) = true then
            some 3
          else
            some 0
      else
        some 1

def ref12_Joined_loop1 (p_l : (List Token)) (k1 : ((List UInt8) → Option (List UInt8))) : Nat → (List UInt8) → Int → Option (List UInt8)
  | 0, _, _ => none
  | m1 + 1, s1, i1 => if (decide (i1 < (p_l.length : Int))) = true then
      joinK (fun (s3 : (List UInt8)) =>
          (at? p_l i1).bind fun x3 =>
            (catO s3 x3.text).bind fun s4 =>
            ref12_Joined_loop1 p_l k1 m1 s4 (IntKind.wrap .i64 (i1 + 1))) fun k2 =>
        (if (decide (i1 > 0)) = true then (at? p_l i1).bind fun x1 =>
        some (decide (x1.kind ≤ 1)) else some false).bind fun c1 =>
        (if c1 = true then (at? p_l (IntKind.wrap .i64 (i1 - 1))).bind fun x2 =>
        some (decide (x2.kind ≤ 1)) else some false).bind fun c2 =>
        if c2 = true then
        (catO s1 [32]).bind fun s2 =>
          k2 s2
      else
        k2 s1
    else
      k1 s1
def ref12_Joined (p_l : (List Token)) : Option (List UInt8) :=
  joinK (fun (s5 : (List UInt8)) =>
    some s5) fun k1 =>
  ref12_Joined_loop1 p_l k1 (Int.toNat ((p_l.length : Int) - 0) + 1) [] 0

def ref12_Join_loop1 (p_l : (List Token)) (k1 : (Option ((List UInt8) × Int))) : Nat → Int → Option ((List UInt8) × Int)
  | 0, _ => none
  | m1 + 1, i1 => if (decide (i1 < (p_l.length : Int))) = true then
      (at? p_l i1).bind fun x1 =>
        (ref12_token x1 (i1 == (IntKind.wrap .i64 ((p_l.length : Int) - 1)))).bind fun r1 =>
        if (r1 != 0) = true then
        some ([], r1)
      else
        ref12_Join_loop1 p_l k1 m1 (IntKind.wrap .i64 (i1 + 1))
    else
      k1
def ref12_Join (p_l : (List Token)) : Option ((List UInt8) × Int) :=
  if (decide ((p_l.length : Int) > 4097)) = true then
  some ([], 5)
  else
  joinK ((ref12_Joined p_l).bind fun r2 =>
    if (decide ((r2.length : Int) > 4096)) = true then
    some ([], 17)
  else
    some (r2, 0)) fun k1 =>
    ref12_Join_loop1 p_l k1 (Int.toNat ((p_l.length : Int) - 0) + 1) 0

def ref12_Lines_loop1 (p_text : (List UInt8)) (k1 : (Int → (List (List UInt8)) → Option ((List (List UInt8)) × Int))) : Nat → Int → Int → (List (List UInt8)) → Option ((List (List UInt8)) × Int)
  | 0, _, _, _ => none
  | m1 + 1, i1, i2, l1 => if (decide (i2 < (p_text.length : Int))) = true then
      joinK (fun (i3 : Int) (l3 : (List (List UInt8))) =>
          ref12_Lines_loop1 p_text k1 m1 i3 (IntKind.wrap .i64 (i2 + 1)) l3) fun k2 =>
        (byteAt p_text i2).bind fun b1 =>
        if ((b1.toNat : Int) == 10) = true then
        (cut p_text i1 i2).bind fun s1 =>
          (appO 16 l1 ([s1] : List (List UInt8))).bind fun _ =>
          k2 (IntKind.wrap .i64 (i2 + 1)) (l1 ++ ([s1] : List (List UInt8)))
      else
        k2 i1 l1
    else
      k1 i1 l1
def ref12_Lines (p_text : (List UInt8)) : Option ((List (List UInt8)) × Int) :=
  joinK (fun (i4 : Int) (l4 : (List (List UInt8))) =>
    if (decide (i4 < (p_text.length : Int))) = true then
      some ([], 18)
    else
      some (l4, 0)) fun k1 =>
  ref12_Lines_loop1 p_text k1 (Int.toNat ((p_text.length : Int) - 0) + 1) 0 0 ([] : List (List UInt8))

def lexer_Unlines_loop1 (p_l : (List (List UInt8))) (k1 : ((List UInt8) → Option ((List UInt8) × Int))) : Nat → Int → (List UInt8) → Option ((List UInt8) × Int)
  | 0, _, _ => none
  | m1 + 1, i1, l1 => if (decide (i1 < (p_l.length : Int))) = true then
      (at? p_l i1).bind fun x1 =>
        (strings_Contains x1 [10]).bind fun r1 =>
        if r1 = true then
        some ([], 3)
      else
        (catO x1 [10]).bind fun s1 =>
          (appO 1 l1 s1).bind fun _ =>
          lexer_Unlines_loop1 p_l k1 m1 (IntKind.wrap .i64 (i1 + 1)) (l1 ++ s1)
    else
      k1 l1
def lexer_Unlines (p_l : (List (List UInt8))) : Option ((List UInt8) × Int) :=
  joinK (fun (l3 : (List UInt8)) =>
    some (l3, 0)) fun k1 =>
  lexer_Unlines_loop1 p_l k1 (Int.toNat ((p_l.length : Int) - 0) + 1) 0 ([] : List UInt8)

def ref12_Unlines_loop2 (p_l : (List (List UInt8))) (i1 : Int) (k3 : (Option ((List UInt8) × Int))) : Nat → Int → Option ((List UInt8) × Int)
  | 0, _ => none
  | m2 + 1, i2 => (at? p_l i1).bind fun x1 =>
      if (decide (i2 < (x1.length : Int))) = true then
      (at? p_l i1).bind fun x2 =>
        (byteAt x2 i2).bind fun b1 =>
        if ((b1.toNat : Int) == 10) = true then
        some ([], 3)
      else
        ref12_Unlines_loop2 p_l i1 k3 m2 (IntKind.wrap .i64 (i2 + 1))
    else
      k3
def ref12_Unlines_loop1 (p_l : (List (List UInt8))) (k1 : ((List UInt8) → Option ((List UInt8) × Int))) : Nat → (List UInt8) → Int → Option ((List UInt8) × Int)
  | 0, _, _ => none
  | m1 + 1, s1, i1 => if (decide (i1 < (p_l.length : Int))) = true then
      joinK (fun (s4 : (List UInt8)) =>
          ref12_Unlines_loop1 p_l k1 m1 s4 (IntKind.wrap .i64 (i1 + 1))) fun k2 =>
        joinK ((at? p_l i1).bind fun x3 =>
        (catO x3 [10]).bind fun s2 =>
        (catO s1 s2).bind fun s3 =>
        k2 s3) fun k3 =>
        ref12_Unlines_loop2 p_l i1 k3 (p_l.flatten.length + 1) 0
    else
      k1 s1
def ref12_Unlines (p_l : (List (List UInt8))) : Option ((List UInt8) × Int) :=
  joinK (fun (s5 : (List UInt8)) =>
    some (s5, 0)) fun k1 =>
  ref12_Unlines_loop1 p_l k1 (Int.toNat ((p_l.length : Int) - 0) + 1) [] 0

def law12_LexerJoins (p_l : (List Token)) (p_s : (List UInt8)) (p_lines : (List (List UInt8))) : Option Bool :=
  (ref12_Few p_l).bind fun r1 =>
  (if (!r1) = true then some true else (ref12_Short p_s).bind fun r2 =>
  some (!r2)).bind fun c1 =>
  (if c1 = true then some true else (ref12_FewTexts p_lines).bind fun r3 =>
  some (!r3)).bind fun c2 =>
  if c2 = true then
  (law12_awake).bind fun r4 =>
    some r4
  else
  (lexer_Join p_l).bind fun r5 =>
    (ref12_Join p_l).bind fun r6 =>
    (lexer_Lines p_s).bind fun r7 =>
    (ref12_Lines p_s).bind fun r8 =>
    (lexer_Unlines p_lines).bind fun r9 =>
    (ref12_Unlines p_lines).bind fun r10 =>
    (law12_awake).bind fun r11 =>
    (if ((r11 && (r5.1 == r6.1)) && (r5.2 == r6.2)) = true then (slices_Equal_stringstring r7.1 r8.1).bind fun r12 =>
    some r12 else some false).bind fun c3 =>
    some (((c3 && (r7.2 == r8.2)) && (r9.1 == r10.1)) && (r9.2 == r10.2))

def law12_LexerLines (p_s : (List UInt8)) (p_at : Int) : Option Bool :=
  if (decide ((p_s.length : Int) > 400)) = true then
  (law12_awake).bind fun r1 =>
    some r1
  else
  (lexer_Lines p_s).bind fun r2 =>
    (if (p_s == []) = true then some true else (strings_HasSuffix p_s [10]).bind fun r3 =>
    some r3).bind fun c1 =>
    if (!((r2.2 == 0) == c1)) = true then
    some false
  else
    joinK ((guardO ((IntKind.wrap .i64 ((p_s.length : Int) + 1)) != 0)).bind fun _ =>
      (lexer_Position p_s (Int.tmod (IntKind.wrap .i64 p_at) (IntKind.wrap .i64 ((p_s.length : Int) + 1)))).bind fun r6 =>
      (if (r6.2.2 != 0) = true then some true else (cut p_s 0 (Int.tmod (IntKind.wrap .i64 p_at) (IntKind.wrap .i64 ((p_s.length : Int) + 1)))).bind fun s1 =>
      (countS s1 [10]).bind fun r7 =>
      some (r6.1 != r7)).bind fun c3 =>
      if c3 = true then
      some false
    else
      (cut p_s 0 (Int.tmod (IntKind.wrap .i64 p_at) (IntKind.wrap .i64 ((p_s.length : Int) + 1)))).bind fun s2 =>
        (lastIdx s2 [10]).bind fun r8 =>
        (if (r6.2.1 == (IntKind.wrap .i64 ((IntKind.wrap .i64 ((Int.tmod (IntKind.wrap .i64 p_at) (IntKind.wrap .i64 ((p_s.length : Int) + 1))) - 1)) - r8))) = true then (law12_awake).bind fun r9 =>
        some r9 else some false).bind fun c4 =>
        some c4) fun k1 =>
      if (r2.2 == 0) = true then
      (lexer_Unlines r2.1).bind fun r4 =>
        (if ((r4.2 != 0) || (!(r4.1 == p_s))) = true then some true else (countS p_s [10]).bind fun r5 =>
        some ((r2.1.length : Int) != r5)).bind fun c2 =>
        if c2 = true then
        some false
      else
        k1
    else
      k1

def ref12_Worth_loop1 (p_s : (List UInt8)) (k1 : (Int → Option Int)) : Nat → Int → Int → Option Int
  | 0, _, _ => none
  | m1 + 1, i1, i2 => if (decide (i2 < (p_s.length : Int))) = true then
      (byteAt p_s i2).bind fun b1 =>
        ref12_Worth_loop1 p_s k1 m1 (IntKind.wrap .i64 ((IntKind.wrap .i64 (10 * i1)) + (IntKind.wrap .i64 (IntKind.wrap .u8 ((b1.toNat : Int) - 48))))) (IntKind.wrap .i64 (i2 + 1))
    else
      k1 i1
def ref12_Worth (p_s : (List UInt8)) : Option Int :=
  joinK (fun (i3 : Int) =>
    some i3) fun k1 =>
  ref12_Worth_loop1 p_s k1 (Int.toNat ((p_s.length : Int) - 0) + 1) 0 0

def ref12_Value (p_s : (List UInt8)) : Option (Int × Int) :=
  joinK (fun (s2 : (List UInt8)) (i1 : Int) =>
    if ((decide (i1 < 0)) && (s2 == [48])) = true then
      some (0, 3)
    else
      (ref12_Number s2).bind fun r1 =>
        if (r1 != 0) = true then
        some (0, r1)
      else
        (ref12_Worth s2).bind fun r2 =>
          some ((IntKind.wrap .i64 (i1 * r2)), 0)) fun k1 =>
  (if (decide ((p_s.length : Int) > 0)) = true then (byteAt p_s 0).bind fun b1 =>
  some ((b1.toNat : Int) == 45) else some false).bind fun c1 =>
  if c1 = true then
  (cut p_s 1 (p_s.length : Int)).bind fun s1 =>
    k1 s1 (-1)
  else
  k1 p_s 1

def lexer_Fields (p_line : (List UInt8)) : Option (List (List UInt8)) :=
  (fieldsSp p_line).bind fun r1 =>
  some r1

def ref12_Fields_loop1 (p_line : (List UInt8)) (k1 : ((List (List UInt8)) → Option (List (List UInt8)))) : Nat → (List UInt8) → Int → (List (List UInt8)) → Option (List (List UInt8))
  | 0, _, _, _ => none
  | m1 + 1, s1, i1, l1 => if (decide (i1 ≤ (p_line.length : Int))) = true then
      joinK (fun (s4 : (List UInt8)) (l4 : (List (List UInt8))) =>
          ref12_Fields_loop1 p_line k1 m1 s4 (IntKind.wrap .i64 (i1 + 1)) l4) fun k2 =>
        (if (decide (i1 < (p_line.length : Int))) = true then (byteAt p_line i1).bind fun b1 =>
        some ((b1.toNat : Int) != 32) else some false).bind fun c1 =>
        if c1 = true then
        (cut p_line i1 (IntKind.wrap .i64 (i1 + 1))).bind fun s2 =>
          (catO s1 s2).bind fun s3 =>
          k2 s3 l1
      else
        joinK (fun (l3 : (List (List UInt8))) =>
            k2 [] l3) fun k3 =>
          if (!(s1 == [])) = true then
          (appO 16 l1 ([s1] : List (List UInt8))).bind fun _ =>
            k3 (l1 ++ ([s1] : List (List UInt8)))
        else
          k3 l1
    else
      k1 l1
def ref12_Fields (p_line : (List UInt8)) : Option (List (List UInt8)) :=
  joinK (fun (l5 : (List (List UInt8))) =>
    some l5) fun k1 =>
  ref12_Fields_loop1 p_line k1 (p_line.length + 2) [] 0 ([] : List (List UInt8))

def law12_LexerWords (p_s : (List UInt8)) : Option Bool :=
  (ref12_Short p_s).bind fun r1 =>
  if (!r1) = true then
  (law12_awake).bind fun r2 =>
    some r2
  else
  (lexer_Value p_s).bind fun r3 =>
    (ref12_Value p_s).bind fun r4 =>
    (law12_awake).bind fun r5 =>
    (if r5 = true then (lexer_Word p_s).bind fun r6 =>
    (ref12_Word p_s).bind fun r7 =>
    some (r6 == r7) else some false).bind fun c1 =>
    (if c1 = true then (lexer_Number p_s).bind fun r8 =>
    (ref12_Number p_s).bind fun r9 =>
    some (r8 == r9) else some false).bind fun c2 =>
    (if ((c2 && (r3.1 == r4.1)) && (r3.2 == r4.2)) = true then (lexer_Fields p_s).bind fun r10 =>
    (ref12_Fields p_s).bind fun r11 =>
    (slices_Equal_stringstring r10 r11).bind fun r12 =>
    some r12 else some false).bind fun c3 =>
    some c3

def law12_LexerFields_loop1 (r2 : ((List (List UInt8)))) (k1 : (Option Bool)) : Nat → Int → Option Bool
  | 0, _ => none
  | m1 + 1, i1 => if (decide (i1 < (r2.length : Int))) = true then
      (at? r2 i1).bind fun x1 =>
        (if (x1 == []) = true then some true else (strings_Contains x1 [32]).bind fun r3 =>
        some r3).bind fun c1 =>
        if c1 = true then
        some false
      else
        law12_LexerFields_loop1 r2 k1 m1 (IntKind.wrap .i64 (i1 + 1))
    else
      k1
def law12_LexerFields (p_s : (List UInt8)) : Option Bool :=
  if (decide ((p_s.length : Int) > 400)) = true then
  (law12_awake).bind fun r1 =>
    some r1
  else
  (lexer_Fields p_s).bind fun r2 =>
    joinK ((joinS r2 []).bind fun r4 =>
    (replAll p_s [32] []).bind fun r5 =>
    (if (r4 == r5) = true then (joinS r2 [32]).bind fun r6 =>
    (lexer_Fields r6).bind fun r7 =>
    (slices_Equal_stringstring r7 r2).bind fun r8 =>
    some r8 else some false).bind fun c2 =>
    (if c2 = true then (law12_awake).bind fun r9 =>
    some r9 else some false).bind fun c3 =>
    some c3) fun k1 =>
    law12_LexerFields_loop1 r2 k1 (Int.toNat ((r2.length : Int) - 0) + 1) 0

def law12_bare_loop1 (p_l : (List Token)) (k1 : ((List Token) → Option (List Token))) : Nat → Int → (List Token) → Option (List Token)
  | 0, _, _ => none
  | m1 + 1, i1, l2 => if (decide (i1 < (p_l.length : Int))) = true then
      (at? l2 i1).bind fun x1 =>
        law12_bare_loop1 p_l k1 m1 (IntKind.wrap .i64 (i1 + 1)) (List.set l2 (Int.toNat i1) (Token.mk x1.kind x1.text 0))
    else
      k1 l2
def law12_bare (p_l : (List Token)) : Option (List Token) :=
  (appO 32 ([] : List Token) p_l).bind fun _ =>
  joinK (fun (l3 : (List Token)) =>
    some l3) fun k1 =>
  law12_bare_loop1 p_l k1 (Int.toNat ((p_l.length : Int) - 0) + 1) 0 p_l

def law12_LexerStands_loop1 (p_s : (List UInt8)) (r2 : ((List Token) × Int × Int)) (k1 : (Int → Option Bool)) : Nat → Int → Int → Option Bool
  | 0, _, _ => none
  | m1 + 1, i1, i2 => if (decide (i2 < (r2.1.length : Int))) = true then
      (at? r2.1 i2).bind fun x1 =>
        (if ((decide (x1.at_ < i1)) || (decide ((IntKind.wrap .i64 (x1.at_ + (x1.text.length : Int))) > (p_s.length : Int)))) = true then some true else (cut p_s x1.at_ (IntKind.wrap .i64 (x1.at_ + (x1.text.length : Int)))).bind fun s1 =>
        some (!(s1 == x1.text))).bind fun c2 =>
        (if c2 = true then some true else (cut p_s i1 x1.at_).bind fun s2 =>
        (trimS s2 [32, 10]).bind fun r4 =>
        some (!(r4 == []))).bind fun c3 =>
        if c3 = true then
        some false
      else
        law12_LexerStands_loop1 p_s r2 k1 m1 (IntKind.wrap .i64 (x1.at_ + (x1.text.length : Int))) (IntKind.wrap .i64 (i2 + 1))
    else
      k1 i1
def law12_LexerStands (p_s : (List UInt8)) : Option Bool :=
  if (decide ((p_s.length : Int) > 400)) = true then
  (law12_awake).bind fun r1 =>
    some r1
  else
  (lexer_Scan p_s).bind fun r2 =>
    if (r2.2.2 != 0) = true then
    (if ((r2.1.length : Int) == 0) = true then (law12_awake).bind fun r3 =>
      some r3 else some false).bind fun c1 =>
      some c1
  else
    joinK (fun (i3 : Int) =>
        (lexer_Join r2.1).bind fun r5 =>
          (lexer_Scan r5.1).bind fun r6 =>
          (lexer_Join r6.1).bind fun r7 =>
          (if (((IntKind.wrap .i64 ((IntKind.wrap .i64 (r5.2 + r6.2.2)) + r7.2)) == 0) && (i3 == (p_s.length : Int))) = true then (law12_bare r2.1).bind fun r8 =>
          (law12_bare r6.1).bind fun r9 =>
          (slices_Equal_api_Tokenapi_Token r8 r9).bind fun r10 =>
          some r10 else some false).bind fun c4 =>
          (if (c4 && (r7.1 == r5.1)) = true then (law12_awake).bind fun r11 =>
          some r11 else some false).bind fun c5 =>
          some c5) fun k1 =>
      law12_LexerStands_loop1 p_s r2 k1 (Int.toNat ((r2.1.length : Int) - 0) + 1) 0 0

end Go.Proofs.YtmfphbdafgmplaaDoor.W
