/- The plain functions. Written by our own program gen.py; Lean checks it. -/
import Derived.Test.YtpocodofhkaddaaGreatDoorTypes
import Derived.Test.YtpocodofhkaddaaGreatDoorExt
set_option linter.unusedVariables false
set_option maxRecDepth 100000
set_option maxHeartbeats 4000000
namespace Go.Proofs.YtpocodofhkaddaaGreatDoor.W
open Go Go.RowKit
def internal_stringslite_HasPrefix (p_s : (List UInt8)) (p_prefix : (List UInt8)) : Option Bool :=
  (if (decide ((p_s.length : Int) ≥ (p_prefix.length : Int))) = true then (cut p_s 0 (p_prefix.length : Int)).bind fun s1 =>
  some (s1 == p_prefix) else some false).bind fun c1 =>
  some c1

def strings_HasPrefix (p_s : (List UInt8)) (p_prefix : (List UInt8)) : Option Bool :=
  (internal_stringslite_HasPrefix p_s p_prefix).bind fun r1 =>
  some r1

def ref58_FewEntries_loop1 (p_l : (List Entry)) (k1 : (Option Bool)) : Nat → Int → Option Bool
  | 0, _ => none
  | m1 + 1, i1 => if (decide (i1 < (p_l.length : Int))) = true then
      (at? p_l i1).bind fun x1 =>
        if (decide ((x1.name.length : Int) > 60)) = true then
        some false
      else
        ref58_FewEntries_loop1 p_l k1 m1 (IntKind.wrap .i64 (i1 + 1))
    else
      k1
def ref58_FewEntries (p_l : (List Entry)) : Option Bool :=
  if (((decide ((p_l.length : Int) > 20)) && (decide ((p_l.length : Int) ≤ 4096))) || (decide ((p_l.length : Int) > 8192))) = true then
  some false
  else
  joinK (some true) fun k1 =>
    ref58_FewEntries_loop1 p_l k1 (Int.toNat ((p_l.length : Int) - 0) + 1) 0

def top_runEntries_loop1 (p_l : (List Entry)) (k1 : ((List Entry) → Option ((List Entry) × Bool))) : Nat → Int → (List Entry) → Option ((List Entry) × Bool)
  | 0, _, _ => none
  | m1 + 1, i1, l1 => if (decide (i1 < (p_l.length : Int))) = true then
      (at? p_l i1).bind fun x1 =>
        (appO 40 l1 ([x1] : List Entry)).bind fun _ =>
        top_runEntries_loop1 p_l k1 m1 (IntKind.wrap .i64 (i1 + 1)) (l1 ++ ([x1] : List Entry))
    else
      k1 l1
def top_runEntries (p_l : (List Entry)) : Option ((List Entry) × Bool) :=
  if (decide ((p_l.length : Int) > 20)) = true then
  some ([], false)
  else
  joinK (fun (l3 : (List Entry)) =>
      (ref58_FewEntries l3).bind fun r1 =>
        some (l3, r1)) fun k1 =>
    top_runEntries_loop1 p_l k1 (Int.toNat ((p_l.length : Int) - 0) + 1) 0 ([] : List Entry)

def journal_in (p_n : Int) (p_least : Int) (p_most : Int) : Option Bool :=
  some ((decide (p_n ≥ p_least)) && (decide (p_n ≤ p_most)))

def lexer_class_loop1 (p_b : Int) (k1 : (Option Int)) : Nat → Int → Option Int
  | 0, _ => none
  | m1 + 1, i1 => if (decide (i1 < 6)) = true then
      (at? lexer_ranges i1).bind fun x1 =>
        if ((decide (x1.a0 ≤ p_b)) && (decide (p_b ≤ x1.a1))) = true then
        some (IntKind.wrap .i64 x1.a2)
      else
        lexer_class_loop1 p_b k1 m1 (IntKind.wrap .i64 (i1 + 1))
    else
      k1
def lexer_class (p_b : Int) : Option Int :=
  joinK ((idxB [43, 45, 42, 47, 40, 41, 91, 93, 123, 125, 60, 62, 61, 44, 59, 58, 124, 38, 33, 35, 46] p_b).bind fun r1 =>
  if (decide (r1 ≥ 0)) = true then
  some 4
  else
  some 0) fun k1 =>
  lexer_class_loop1 p_b k1 (Int.toNat (6 - 0) + 1) 0

def lexer_run_loop2 (p_s : (List UInt8)) (p_classes : (List Int)) (i1 : Int) (k3 : (Bool → Option Int)) : Nat → Bool → Int → Option Int
  | 0, _, _ => none
  | m2 + 1, c1, i2 => if (decide (i2 < (p_classes.length : Int))) = true then
      (at? p_classes i2).bind fun x1 =>
        (if c1 = true then some true else (byteAt p_s i1).bind fun b1 =>
        (lexer_class (b1.toNat : Int)).bind fun r1 =>
        some (r1 == x1)).bind fun c2 =>
        lexer_run_loop2 p_s p_classes i1 k3 m2 c2 (IntKind.wrap .i64 (i2 + 1))
    else
      k3 c1
def lexer_run_loop1 (p_s : (List UInt8)) (p_classes : (List Int)) (k1 : (Option Int)) : Nat → Int → Option Int
  | 0, _ => none
  | m1 + 1, i1 => if (decide (i1 < (p_s.length : Int))) = true then
      joinK (lexer_run_loop1 p_s p_classes k1 m1 (IntKind.wrap .i64 (i1 + 1))) fun k2 =>
        joinK (fun (c3 : Bool) =>
          if (!c3) = true then
            some i1
          else
            k2) fun k3 =>
        lexer_run_loop2 p_s p_classes i1 k3 (Int.toNat ((p_classes.length : Int) - 0) + 1) false 0
    else
      k1
def lexer_run (p_s : (List UInt8)) (p_classes : (List Int)) : Option Int :=
  joinK (some (p_s.length : Int)) fun k1 =>
  lexer_run_loop1 p_s p_classes k1 (Int.toNat ((p_s.length : Int) - 0) + 1) 0

def lexer_Word (p_s : (List UInt8)) : Option Int :=
  (if (p_s == []) = true then some true else (byteAt p_s 0).bind fun b1 =>
  (lexer_class (b1.toNat : Int)).bind fun r1 =>
  some (r1 != 1)).bind fun c1 =>
  (if c1 = true then some true else (lexer_run p_s ([1, 2, 3] : List Int)).bind fun r2 =>
  some (r2 != (p_s.length : Int))).bind fun c2 =>
  if c2 = true then
  some 3
  else
  if (decide ((p_s.length : Int) > 24)) = true then
    some 17
  else
    some 0

def journal_Right (p_x : Entry) : Option Int :=
  (journal_in p_x.kind 0 5).bind fun r1 =>
  if (!r1) = true then
  some 1
  else
  (lexer_Word p_x.name).bind fun r2 =>
    if (r2 != 0) = true then
    some r2
  else
    joinK (fun (s1 : (List UInt8)) (c1 : Bool) (c2 : Bool) =>
        (if c1 = true then (journal_in p_x.count 1 1048576).bind fun r3 =>
          some (!r3) else some false).bind fun c3 =>
          (if (c3 || ((!c1) && (p_x.count != 0))) = true then some true else (if c2 = true then (journal_in p_x.strokes 0 1048576).bind fun r4 =>
          some (!r4) else some false).bind fun c5 =>
          some c5).bind fun c4 =>
          if (c4 || ((!c2) && (p_x.strokes != 0))) = true then
          some 2
        else
          some 0) fun k1 =>
      if (p_x.kind == 0) = true then
      k1 [112, 97, 114, 116] true false
    else
      if (p_x.kind == 1) = true then
        k1 [99, 121, 99, 108, 101, 115] true true
      else
        if (p_x.kind == 2) = true then
          k1 [102, 97, 117, 108, 116] false false
        else
          if (p_x.kind == 3) = true then
            k1 [114, 101, 112, 97, 105, 114] false false
          else
            if (p_x.kind == 4) = true then
              k1 [114, 101, 112, 108, 97, 99, 101] true false
            else
              if (p_x.kind == 5) = true then
                k1 [114, 101, 109, 111, 118, 101] false false
              else
                none

def journal_find_loop1 (p_m : Machine) (p_name : (List UInt8)) (k1 : (Int → Option (Int × Bool))) : Nat → Int → Int → Option (Int × Bool)
  | 0, _, _ => none
  | m1 + 1, i1, i2 => if (decide (i1 < i2)) = true then
      (at? p_m.items (IntKind.wrap .i64 ((IntKind.wrap .u64 (IntKind.wrap .i64 (i1 + i2))) / 2 ^ 1))).bind fun x1 =>
        (cmpS x1.name p_name).bind fun r1 =>
        if (decide (r1 < 0)) = true then
        journal_find_loop1 p_m p_name k1 m1 (IntKind.wrap .i64 ((IntKind.wrap .i64 ((IntKind.wrap .u64 (IntKind.wrap .i64 (i1 + i2))) / 2 ^ 1)) + 1)) i2
      else
        journal_find_loop1 p_m p_name k1 m1 i1 (IntKind.wrap .i64 ((IntKind.wrap .u64 (IntKind.wrap .i64 (i1 + i2))) / 2 ^ 1))
    else
      k1 i1
def journal_find (p_m : Machine) (p_name : (List UInt8)) : Option (Int × Bool) :=
  joinK (fun (i3 : Int) =>
    (if (decide (i3 < (p_m.items.length : Int))) = true then (at? p_m.items i3).bind fun x2 =>
      (cmpS x2.name p_name).bind fun r2 =>
      some (r2 == 0) else some false).bind fun c1 =>
      some (i3, c1)) fun k1 =>
  journal_find_loop1 p_m p_name k1 (p_m.items.length + 1) 0 (p_m.items.length : Int)

def journal_done (p_m : Machine) (p_x : Entry) : Option (Machine × Int) :=
  (journal_find p_m p_x.name).bind fun r1 =>
  if ((p_x.kind == 0) && r1.2) = true then
  some ((Machine.mk [] 0), 7)
  else
  if ((p_x.kind != 0) && (!r1.2)) = true then
    some ((Machine.mk [] 0), 6)
  else
    joinK (fun (l3 : (List Item)) =>
        joinK (fun (i1 : Int) (i2 : Int) (l10 : (List Item)) =>
            if (i1 != 0) = true then
              some ((Machine.mk [] 0), i1)
            else
              some ((Machine.mk l10 i2), 0)) fun k2 =>
          if (p_x.kind == 0) = true then
          if ((l3.length : Int) == 256) = true then
            k2 5 p_m.cycles l3
          else
            joinK (fun (l7 : (List Item)) =>
                k2 0 p_m.cycles l7) fun k3 =>
              (insO 64 l3 r1.1 ([(Item.mk p_x.name p_x.count 0 0 false p_m.cycles 0)] : List Item)).bind fun l4 =>
              k3 l4
        else
          if (p_x.kind == 1) = true then
            (at? l3 r1.1).bind fun x1 =>
              if x1.faulty = true then
              k2 14 p_m.cycles l3
            else
              if ((decide ((IntKind.wrap .i64 (p_m.cycles + p_x.count)) > 1048576)) || (decide ((IntKind.wrap .i64 (x1.used + (IntKind.wrap .i64 (p_x.count * p_x.strokes)))) > 1048576))) = true then
                k2 11 p_m.cycles l3
              else
                k2 0 (IntKind.wrap .i64 (p_m.cycles + p_x.count)) (List.set (List.set l3 (Int.toNat r1.1) (Item.mk x1.name x1.life x1.used x1.faults x1.faulty x1.since (IntKind.wrap .i64 (x1.cycles + p_x.count)))) (Int.toNat r1.1) (Item.mk x1.name x1.life (IntKind.wrap .i64 (x1.used + (IntKind.wrap .i64 (p_x.count * p_x.strokes)))) x1.faults x1.faulty x1.since (IntKind.wrap .i64 (x1.cycles + p_x.count))))
          else
            if (p_x.kind == 2) = true then
              (at? l3 r1.1).bind fun x2 =>
                if x2.faulty = true then
                k2 14 p_m.cycles l3
              else
                if (x2.faults == 4096) = true then
                  k2 5 p_m.cycles l3
                else
                  k2 0 p_m.cycles (List.set (List.set l3 (Int.toNat r1.1) (Item.mk x2.name x2.life x2.used x2.faults true x2.since x2.cycles)) (Int.toNat r1.1) (Item.mk x2.name x2.life x2.used (IntKind.wrap .i64 (x2.faults + 1)) true x2.since x2.cycles))
            else
              if (p_x.kind == 3) = true then
                (at? l3 r1.1).bind fun x3 =>
                  if (!x3.faulty) = true then
                  k2 14 p_m.cycles l3
                else
                  k2 0 p_m.cycles (List.set l3 (Int.toNat r1.1) (Item.mk x3.name x3.life x3.used x3.faults false x3.since x3.cycles))
              else
                if (p_x.kind == 4) = true then
                  joinK (fun (l8 : (List Item)) =>
                      k2 0 p_m.cycles l8) fun k4 =>
                    (at? l3 r1.1).bind fun x4 =>
                    k4 (List.set l3 (Int.toNat r1.1) (Item.mk p_x.name p_x.count 0 0 false p_m.cycles 0))
                else
                  if (p_x.kind == 5) = true then
                    (delO l3 r1.1 (IntKind.wrap .i64 (r1.1 + 1))).bind fun l9 =>
                      k2 0 p_m.cycles l9
                  else
                    none) fun k1 =>
      (appO 64 ([] : List Item) p_m.items).bind fun _ =>
      k1 p_m.items

def journal_Run_loop1 (p_l : (List Entry)) (k1 : ((List Item) → Int → Option (Machine × Int × Int))) : Nat → Int → (List Item) → Int → Option (Machine × Int × Int)
  | 0, _, _, _ => none
  | m1 + 1, i1, l1, i2 => if (decide (i1 < (p_l.length : Int))) = true then
      (at? p_l i1).bind fun x1 =>
        (journal_Right x1).bind fun r1 =>
        joinK (fun (i3 : Int) (l2 : (List Item)) (i4 : Int) =>
          if (i3 != 0) = true then
            some ((Machine.mk [] 0), i1, i3)
          else
            journal_Run_loop1 p_l k1 m1 (IntKind.wrap .i64 (i1 + 1)) l2 i4) fun k2 =>
        if (r1 == 0) = true then
        (journal_done (Machine.mk l1 i2) x1).bind fun r2 =>
          k2 r2.2 r2.1.items r2.1.cycles
      else
        k2 r1 l1 i2
    else
      k1 l1 i2
def journal_Run (p_l : (List Entry)) : Option (Machine × Int × Int) :=
  if (decide ((p_l.length : Int) > 4096)) = true then
  some ((Machine.mk [] 0), 0, 5)
  else
  joinK (fun (l3 : (List Item)) (i5 : Int) =>
      some ((Machine.mk l3 i5), 0, 0)) fun k1 =>
    journal_Run_loop1 p_l k1 (Int.toNat ((p_l.length : Int) - 0) + 1) 0 [] 0

def journal_text (p_x : Entry) : Option (List UInt8) :=
  joinK (fun (s1 : (List UInt8)) (c1 : Bool) (c2 : Bool) =>
    (catO s1 [32]).bind fun s2 =>
      (catO s2 p_x.name).bind fun s3 =>
      joinK (fun (s6 : (List UInt8)) =>
        joinK (fun (s9 : (List UInt8)) =>
            some s9) fun k3 =>
          if c2 = true then
          (itoa p_x.strokes).bind fun r2 =>
            (catO [32] r2).bind fun s7 =>
            (catO s6 s7).bind fun s8 =>
            k3 s8
        else
          k3 s6) fun k2 =>
      if c1 = true then
      (itoa p_x.count).bind fun r1 =>
        (catO [32] r1).bind fun s4 =>
        (catO s3 s4).bind fun s5 =>
        k2 s5
    else
      k2 s3) fun k1 =>
  if (p_x.kind == 0) = true then
  k1 [112, 97, 114, 116] true false
  else
  if (p_x.kind == 1) = true then
    k1 [99, 121, 99, 108, 101, 115] true true
  else
    if (p_x.kind == 2) = true then
      k1 [102, 97, 117, 108, 116] false false
    else
      if (p_x.kind == 3) = true then
        k1 [114, 101, 112, 97, 105, 114] false false
      else
        if (p_x.kind == 4) = true then
          k1 [114, 101, 112, 108, 97, 99, 101] true false
        else
          if (p_x.kind == 5) = true then
            k1 [114, 101, 109, 111, 118, 101] false false
          else
            none

def journal_mark_loop1 (p_s : (List UInt8)) (k1 : (Int → Option Int)) : Nat → Int → Int → Option Int
  | 0, _, _ => none
  | m1 + 1, i1, i2 => if (decide (i2 < (p_s.length : Int))) = true then
      (byteAt p_s i2).bind fun b1 =>
        journal_mark_loop1 p_s k1 m1 (Int.tmod (IntKind.wrap .i64 ((IntKind.wrap .i64 ((IntKind.wrap .i64 (i1 * 31)) + (IntKind.wrap .i64 (b1.toNat : Int)))) + 7)) 65521) (IntKind.wrap .i64 (i2 + 1))
    else
      k1 i1
def journal_mark (p_before : Int) (p_s : (List UInt8)) : Option Int :=
  joinK (fun (i3 : Int) =>
    some i3) fun k1 =>
  journal_mark_loop1 p_s k1 (Int.toNat ((p_s.length : Int) - 0) + 1) (Int.tmod p_before 65521) 0

def journal_Log_loop1 (p_l : (List Entry)) (k1 : ((List UInt8) → Option ((List UInt8) × Int))) : Nat → Int → Int → (List UInt8) → Option ((List UInt8) × Int)
  | 0, _, _, _ => none
  | m1 + 1, i1, i2, l1 => if (decide (i2 < (p_l.length : Int))) = true then
      (at? p_l i2).bind fun x1 =>
        (journal_text x1).bind fun r2 =>
        (journal_mark i1 r2).bind fun r3 =>
        (catO r2 [32, 59, 32]).bind fun s1 =>
        (itoa r3).bind fun r4 =>
        (catO s1 r4).bind fun s2 =>
        (catO s2 [10]).bind fun s3 =>
        (appO 1 l1 s3).bind fun _ =>
        if (decide (((l1 ++ s3).length : Int) > 262144)) = true then
        some ([], 17)
      else
        journal_Log_loop1 p_l k1 m1 r3 (IntKind.wrap .i64 (i2 + 1)) (l1 ++ s3)
    else
      k1 l1
def journal_Log (p_l : (List Entry)) : Option ((List UInt8) × Int) :=
  (journal_Run p_l).bind fun r1 =>
  if (r1.2.2 != 0) = true then
  some ([], r1.2.2)
  else
  joinK (fun (l3 : (List UInt8)) =>
      some (l3, 0)) fun k1 =>
    journal_Log_loop1 p_l k1 (Int.toNat ((p_l.length : Int) - 0) + 1) 0 0 ([] : List UInt8)

def internal_stringslite_CutPrefix (p_s : (List UInt8)) (p_prefix : (List UInt8)) : Option ((List UInt8) × Bool) :=
  (internal_stringslite_HasPrefix p_s p_prefix).bind fun r1 =>
  if (!r1) = true then
  some (p_s, false)
  else
  (cut p_s (p_prefix.length : Int) (p_s.length : Int)).bind fun s1 =>
    some (s1, true)

def strings_CutPrefix (p_s : (List UInt8)) (p_prefix : (List UInt8)) : Option ((List UInt8) × Bool) :=
  (internal_stringslite_CutPrefix p_s p_prefix).bind fun r1 =>
  some (r1.1, r1.2)

def lexer_Number (p_s : (List UInt8)) : Option Int :=
  (if (p_s == []) = true then some true else (lexer_run p_s ([2] : List Int)).bind fun r1 =>
  some (r1 != (p_s.length : Int))).bind fun c1 =>
  (if c1 = true then some true else (byteAt p_s 0).bind fun b2 =>
  some (((b2.toNat : Int) == 48) && (!(p_s == [48])))).bind fun c2 =>
  if c2 = true then
  some 3
  else
  if (decide ((p_s.length : Int) > 7)) = true then
    some 17
  else
    some 0

def internal_strconv_Atoi_loop1 (s2 : (List UInt8)) (k3 : (Int → Option (Int × Unit))) : Nat → Int → Int → Option (Int × Unit)
  | 0, _, _ => none
  | m1 + 1, i1, i2 => if (decide (i2 < ((bytesI s2).length : Int))) = true then
      (at? (bytesI s2) i2).bind fun x1 =>
        if (decide ((IntKind.wrap .u8 (x1 - 48)) > 9)) = true then
        none
      else
        internal_strconv_Atoi_loop1 s2 k3 m1 (IntKind.wrap .i64 ((IntKind.wrap .i64 (i1 * 10)) + (IntKind.wrap .i64 (IntKind.wrap .u8 (x1 - 48))))) (IntKind.wrap .i64 (i2 + 1))
    else
      k3 i1
def internal_strconv_Atoi (p_s : (List UInt8)) : Option (Int × Unit) :=
  joinK (none) fun k1 =>
  if ((decide ((0 : Int) < (p_s.length : Int))) && (decide ((p_s.length : Int) < 19))) = true then
  joinK (fun (s2 : (List UInt8)) =>
      joinK (fun (i3 : Int) =>
          joinK (fun (i4 : Int) =>
              some (i4, ())) fun k4 =>
            (byteAt p_s 0).bind fun b3 =>
            if ((b3.toNat : Int) == 45) = true then
            k4 (IntKind.wrap .i64 (0 - i3))
          else
            k4 i3) fun k3 =>
        internal_strconv_Atoi_loop1 s2 k3 (Int.toNat (((bytesI s2).length : Int) - 0) + 1) 0 0) fun k2 =>
    (byteAt p_s 0).bind fun b1 =>
    (if ((b1.toNat : Int) == 45) = true then some true else (byteAt p_s 0).bind fun b2 =>
    some ((b2.toNat : Int) == 43)).bind fun c1 =>
    if c1 = true then
    (cut p_s 1 (p_s.length : Int)).bind fun s1 =>
      if (decide ((s1.length : Int) < 1)) = true then
      none
    else
      k2 s1
  else
    k2 p_s
  else
  k1

def strconv_Atoi (p_s : (List UInt8)) : Option (Int × Unit) :=
  (internal_strconv_Atoi p_s).bind fun r1 =>
  some (r1.1, ())

def lexer_Value (p_s : (List UInt8)) : Option (Int × Int) :=
  (strings_CutPrefix p_s [45]).bind fun r1 =>
  (lexer_Number r1.1).bind fun r2 =>
  if (r2 != 0) = true then
  some (0, r2)
  else
  if (r1.2 && (r1.1 == [48])) = true then
    some (0, 3)
  else
    (strconv_Atoi p_s).bind fun r3 =>
      some (r3.1, 0)

def journal_Read_loop1 (r1 : ((List (List UInt8)))) (k1 : (Int → Option (Entry × Int))) (k2 : (Option (Entry × Int))) : Nat → Int → Option (Entry × Int)
  | 0, _ => none
  | m1 + 1, i1 => if (decide (i1 < 6)) = true then
      joinK (fun (c1 : Bool) =>
          if c1 = true then
            k1 i1
          else
            journal_Read_loop1 r1 k1 k2 m1 (IntKind.wrap .i64 (i1 + 1))) fun k3 =>
        if (i1 == 0) = true then
        (at? r1 0).bind fun x1 =>
          k3 (([112, 97, 114, 116] : List UInt8) == x1)
      else
        if (i1 == 1) = true then
          (at? r1 0).bind fun x2 =>
            k3 (([99, 121, 99, 108, 101, 115] : List UInt8) == x2)
        else
          if (i1 == 2) = true then
            (at? r1 0).bind fun x3 =>
              k3 (([102, 97, 117, 108, 116] : List UInt8) == x3)
          else
            if (i1 == 3) = true then
              (at? r1 0).bind fun x4 =>
                k3 (([114, 101, 112, 97, 105, 114] : List UInt8) == x4)
            else
              if (i1 == 4) = true then
                (at? r1 0).bind fun x5 =>
                  k3 (([114, 101, 112, 108, 97, 99, 101] : List UInt8) == x5)
              else
                if (i1 == 5) = true then
                  (at? r1 0).bind fun x6 =>
                    k3 (([114, 101, 109, 111, 118, 101] : List UInt8) == x6)
                else
                  none
    else
      k2
def journal_Read (p_s : (List UInt8)) : Option (Entry × Int) :=
  if (decide ((p_s.length : Int) > 4096)) = true then
  some ((Entry.mk 0 [] 0 0), 17)
  else
  (splitS p_s [32]).bind fun r1 =>
    joinK (fun (i2 : Int) =>
      if ((decide (i2 < 0)) || (decide ((r1.length : Int) < 2))) = true then
        some ((Entry.mk 0 [] 0 0), 4)
      else
        (at? r1 1).bind fun x7 =>
          joinK (fun (i3 : Int) =>
            joinK (fun (i4 : Int) =>
                (journal_Right (Entry.mk i2 x7 i3 i4)).bind fun r4 =>
                  (if (r4 != 0) = true then some true else (journal_text (Entry.mk i2 x7 i3 i4)).bind fun r5 =>
                  some (!(r5 == p_s))).bind fun c4 =>
                  if c4 = true then
                  some ((Entry.mk 0 [] 0 0), 4)
                else
                  some ((Entry.mk i2 x7 i3 i4), 0)) fun k6 =>
              joinK (fun (c3 : Bool) =>
                if c3 = true then
                  (at? r1 3).bind fun x9 =>
                    (lexer_Value x9).bind fun r3 =>
                    k6 r3.1
                else
                  k6 0) fun k7 =>
              if (i2 == 0) = true then
              k7 false
            else
              if (i2 == 1) = true then
                k7 (decide ((r1.length : Int) > 3))
              else
                if (i2 == 2) = true then
                  k7 false
                else
                  if (i2 == 3) = true then
                    k7 false
                  else
                    if (i2 == 4) = true then
                      k7 false
                    else
                      if (i2 == 5) = true then
                        k7 false
                      else
                        none) fun k4 =>
          joinK (fun (c2 : Bool) =>
            if c2 = true then
              (at? r1 2).bind fun x8 =>
                (lexer_Value x8).bind fun r2 =>
                k4 r2.1
            else
              k4 0) fun k5 =>
          if (i2 == 0) = true then
          k5 (decide ((r1.length : Int) > 2))
        else
          if (i2 == 1) = true then
            k5 (decide ((r1.length : Int) > 2))
          else
            if (i2 == 2) = true then
              k5 false
            else
              if (i2 == 3) = true then
                k5 false
              else
                if (i2 == 4) = true then
                  k5 (decide ((r1.length : Int) > 2))
                else
                  if (i2 == 5) = true then
                    k5 false
                  else
                    none) fun k1 =>
    joinK (k1 (-1)) fun k2 =>
    journal_Read_loop1 r1 k1 k2 (Int.toNat (6 - 0) + 1) 0

def journal_readAll_loop1 : Nat → (List UInt8) → (List Item) → Int → Int → Int → Int → Option (JRead × Int)
  | 0, _, _, _, _, _, _ => none
  | m1 + 1, s1, l2, i1, i2, i3, i4 => if (!(s1 == [])) = true then
      (cutAt s1 [10]).bind fun r1 =>
        joinK (fun (i8 : Int) (l4 : (List Item)) (i9 : Int) (i10 : Int) (i11 : Int) (i12 : Int) =>
          if (i8 != 0) = true then
            some ((JRead.mk (Machine.mk l4 i9) i10 i11 i12), i8)
          else
            journal_readAll_loop1 m1 r1.2.1 l4 i9 i10 i11 i12) fun k1 =>
        if (i3 == 4096) = true then
        k1 5 l2 i1 i2 i3 i4
      else
        if (!r1.2.2) = true then
          k1 18 l2 i1 i2 i3 i4
        else
          (lastIdx r1.1 [32, 59, 32]).bind fun r2 =>
            (if (decide (r2 < 0)) = true then some true else (cut r1.1 (IntKind.wrap .i64 (r2 + 3)) (r1.1.length : Int)).bind fun s2 =>
            (cut r1.1 0 r2).bind fun s3 =>
            (journal_mark i2 s3).bind fun r3 =>
            (itoa r3).bind fun r4 =>
            some (!(s2 == r4))).bind fun c1 =>
            if c1 = true then
            k1 19 l2 i1 i2 i3 i4
          else
            (cut r1.1 0 r2).bind fun s4 =>
              (journal_Read s4).bind fun r5 =>
              if (r5.2 != 0) = true then
              k1 4 l2 i1 i2 i3 i4
            else
              joinK (fun (i5 : Int) (l3 : (List Item)) (i6 : Int) =>
                  if (i5 != 0) = true then
                    k1 i5 l2 i1 i2 i3 i4
                  else
                    joinK (fun (i7 : Int) =>
                        k1 0 l3 i6 i7 (IntKind.wrap .i64 (i3 + 1)) (IntKind.wrap .i64 ((IntKind.wrap .i64 (i4 + (r1.1.length : Int))) + 1))) fun k3 =>
                      (cut r1.1 0 r2).bind fun s5 =>
                      (journal_mark i2 s5).bind fun r8 =>
                      k3 r8) fun k2 =>
                (journal_done (Machine.mk l2 i1) r5.1).bind fun r6 =>
                k2 r6.2 r6.1.items r6.1.cycles
    else
      some ((JRead.mk (Machine.mk l2 i1) i2 i3 i4), 0)
def journal_readAll (p_text : (List UInt8)) : Option (JRead × Int) :=
  journal_readAll_loop1 (p_text.length + 1) p_text [] 0 0 0 0

def journal_Load (p_text : (List UInt8)) : Option (Machine × Int × Int) :=
  if (decide ((p_text.length : Int) > 262144)) = true then
  some ((Machine.mk [] 0), 0, 17)
  else
  (journal_readAll p_text).bind fun r1 =>
    if (r1.2 != 0) = true then
    some ((Machine.mk [] 0), r1.1.lines, r1.2)
  else
    some (r1.1.m, r1.1.lines, 0)

def law58_Four  : Option (List Entry) :=
  some ([(Entry.mk 0 [65] 100 0), (Entry.mk 1 [65] 3 20), (Entry.mk 2 [65] 0 0), (Entry.mk 3 [65] 0 0)] : List Entry)

def journal_Check_loop1 (p_m : Machine) (k1 : (Option Int)) : Nat → Int → Option Int
  | 0, _ => none
  | m1 + 1, i1 => if (decide (i1 < (p_m.items.length : Int))) = true then
      (at? p_m.items i1).bind fun x1 =>
        (lexer_Word x1.name).bind fun r2 =>
        if (r2 != 0) = true then
        some r2
      else
        (if (decide (i1 > 0)) = true then (at? p_m.items (IntKind.wrap .i64 (i1 - 1))).bind fun x2 =>
          some (Op.bytesLess x1.name x2.name || x1.name == x2.name) else some false).bind fun c1 =>
          if c1 = true then
          some 9
        else
          (journal_in x1.life 1 1048576).bind fun r3 =>
            (if (!r3) = true then some true else (journal_in x1.used 0 1048576).bind fun r4 =>
            some (!r4)).bind fun c2 =>
            (if c2 = true then some true else (journal_in x1.faults 0 4096).bind fun r5 =>
            some (!r5)).bind fun c3 =>
            if c3 = true then
            some 2
          else
            (journal_in x1.since 0 p_m.cycles).bind fun r6 =>
              (if (!r6) = true then some true else (journal_in x1.cycles 0 (IntKind.wrap .i64 (p_m.cycles - x1.since))).bind fun r7 =>
              some (!r7)).bind fun c4 =>
              if c4 = true then
              some 2
            else
              if (x1.faulty && (x1.faults == 0)) = true then
                some 14
              else
                journal_Check_loop1 p_m k1 m1 (IntKind.wrap .i64 (i1 + 1))
    else
      k1
def journal_Check (p_m : Machine) : Option Int :=
  (journal_in p_m.cycles 0 1048576).bind fun r1 =>
  if (!r1) = true then
  some 2
  else
  if (decide ((p_m.items.length : Int) > 256)) = true then
    some 5
  else
    joinK (some 0) fun k1 =>
      journal_Check_loop1 p_m k1 (Int.toNat ((p_m.items.length : Int) - 0) + 1) 0

def journal_Left (p_m : Machine) (p_name : (List UInt8)) (p_strokes : Int) : Option (Int × Int) :=
  (journal_Check p_m).bind fun r1 =>
  if (r1 != 0) = true then
  some (0, r1)
  else
  (journal_find p_m p_name).bind fun r2 =>
    if (!r2.2) = true then
    some (0, 6)
  else
    (journal_in p_strokes 1 1048576).bind fun r3 =>
      if (!r3) = true then
      some (0, 2)
    else
      (at? p_m.items r2.1).bind fun x1 =>
        (at? p_m.items r2.1).bind fun x2 =>
        (guardO (p_strokes != 0)).bind fun _ =>
        some ((IntKind.wrap .i64 (Int.tdiv (IntKind.wrap .i64 ((IntKind.wrap .i64 ((if (IntKind.wrap .i64 (x1.life - x2.used)) > 0 then (IntKind.wrap .i64 (x1.life - x2.used)) else 0) + p_strokes)) - 1)) p_strokes)), 0)

def top_runLog  : Option Bool :=
  (law58_Four).bind fun r1 =>
  (journal_Log r1).bind fun r2 =>
  (journal_Load r2.1).bind fun r3 =>
  (journal_Left r3.1 [65] 20).bind fun r4 =>
  some ((((IntKind.wrap .i64 ((IntKind.wrap .i64 (r2.2 + r3.2.2)) + r4.2)) == 0) && (r3.2.1 == 4)) && (r4.1 == 2))

def ref58_in (p_n : Int) (p_low : Int) (p_high : Int) : Option Bool :=
  some ((decide (p_n ≥ p_low)) && (decide (p_n ≤ p_high)))

def ref12_Letter (p_b : Int) : Option Bool :=
  some (((decide (p_b ≥ 97)) && (decide (p_b ≤ 122))) || ((decide (p_b ≥ 65)) && (decide (p_b ≤ 90))))

def ref12_Digit (p_b : Int) : Option Bool :=
  some ((decide (p_b ≥ 48)) && (decide (p_b ≤ 57)))

def ref12_inner (p_b : Int) : Option Bool :=
  (ref12_Letter p_b).bind fun r1 =>
  (if r1 = true then some true else (ref12_Digit p_b).bind fun r2 =>
  some r2).bind fun c1 =>
  some (c1 || (p_b == 95))

def ref12_Word_loop1 (p_s : (List UInt8)) (k1 : (Option Int)) : Nat → Int → Option Int
  | 0, _ => none
  | m1 + 1, i1 => if (decide (i1 < (p_s.length : Int))) = true then
      (byteAt p_s i1).bind fun b2 =>
        (ref12_inner (b2.toNat : Int)).bind fun r2 =>
        if (!r2) = true then
        some 3
      else
        ref12_Word_loop1 p_s k1 m1 (IntKind.wrap .i64 (i1 + 1))
    else
      k1
def ref12_Word (p_s : (List UInt8)) : Option Int :=
  (if ((p_s.length : Int) == 0) = true then some true else (byteAt p_s 0).bind fun b1 =>
  (ref12_Letter (b1.toNat : Int)).bind fun r1 =>
  some (!r1)).bind fun c1 =>
  if c1 = true then
  some 3
  else
  joinK (if (decide ((p_s.length : Int) > 24)) = true then
    some 17
  else
    some 0) fun k1 =>
    ref12_Word_loop1 p_s k1 (Int.toNat ((p_s.length : Int) - 0) + 1) 0

def ref58_item (p_x : Item) (p_cycles : Int) : Option Int :=
  (ref58_in p_x.life 1 1048576).bind fun r1 =>
  (if (!r1) = true then some true else (ref58_in p_x.used 0 1048576).bind fun r2 =>
  some (!r2)).bind fun c1 =>
  (if c1 = true then some true else (ref58_in p_x.faults 0 4096).bind fun r3 =>
  some (!r3)).bind fun c2 =>
  if c2 = true then
  some 2
  else
  (ref58_in p_x.since 0 p_cycles).bind fun r4 =>
    (if (!r4) = true then some true else (ref58_in p_x.cycles 0 p_cycles).bind fun r5 =>
    some (!r5)).bind fun c3 =>
    if (c3 || (decide ((IntKind.wrap .i64 (p_x.since + p_x.cycles)) > p_cycles))) = true then
    some 2
  else
    if (p_x.faulty && (p_x.faults == 0)) = true then
      some 14
    else
      some 0

def ref58_Check_loop1 (p_m : Machine) (k1 : (Option Int)) : Nat → Int → Option Int
  | 0, _ => none
  | m1 + 1, i1 => if (decide (i1 < (p_m.items.length : Int))) = true then
      (at? p_m.items i1).bind fun x1 =>
        (ref12_Word x1.name).bind fun r2 =>
        if (r2 != 0) = true then
        some r2
      else
        (if (decide (i1 > 0)) = true then (at? p_m.items i1).bind fun x2 =>
          (at? p_m.items (IntKind.wrap .i64 (i1 - 1))).bind fun x3 =>
          some (Op.bytesLess x2.name x3.name || x2.name == x3.name) else some false).bind fun c1 =>
          if c1 = true then
          some 9
        else
          (at? p_m.items i1).bind fun x4 =>
            (ref58_item x4 p_m.cycles).bind fun r3 =>
            if (r3 != 0) = true then
            some r3
          else
            ref58_Check_loop1 p_m k1 m1 (IntKind.wrap .i64 (i1 + 1))
    else
      k1
def ref58_Check (p_m : Machine) : Option Int :=
  (ref58_in p_m.cycles 0 1048576).bind fun r1 =>
  if (!r1) = true then
  some 2
  else
  if (decide ((p_m.items.length : Int) > 256)) = true then
    some 5
  else
    joinK (some 0) fun k1 =>
      ref58_Check_loop1 p_m k1 (Int.toNat ((p_m.items.length : Int) - 0) + 1) 0

def ref58_counted (p_kind : Int) : Option Bool :=
  some (((p_kind == 0) || (p_kind == 1)) || (p_kind == 4))

def ref58_Right (p_x : Entry) : Option Int :=
  (ref58_in p_x.kind 0 5).bind fun r1 =>
  if (!r1) = true then
  some 1
  else
  (ref12_Word p_x.name).bind fun r2 =>
    if (r2 != 0) = true then
    some r2
  else
    (ref58_counted p_x.kind).bind fun r3 =>
      (if r3 = true then (ref58_in p_x.count 1 1048576).bind fun r4 =>
      some (!r4) else some false).bind fun c1 =>
      (if c1 = true then some true else (ref58_counted p_x.kind).bind fun r5 =>
      some ((!r5) && (p_x.count != 0))).bind fun c2 =>
      if c2 = true then
      some 2
    else
      (if (p_x.kind == 1) = true then (ref58_in p_x.strokes 0 1048576).bind fun r6 =>
        some (!r6) else some false).bind fun c3 =>
        if (c3 || ((p_x.kind != 1) && (p_x.strokes != 0))) = true then
        some 2
      else
        some 0

def ref58_Place_loop1 (p_m : Machine) (p_name : (List UInt8)) (k1 : (Option Int)) : Nat → Int → Option Int
  | 0, _ => none
  | m1 + 1, i1 => if (decide (i1 < (p_m.items.length : Int))) = true then
      (at? p_m.items i1).bind fun x1 =>
        if (x1.name == p_name) = true then
        some i1
      else
        ref58_Place_loop1 p_m p_name k1 m1 (IntKind.wrap .i64 (i1 + 1))
    else
      k1
def ref58_Place (p_m : Machine) (p_name : (List UInt8)) : Option Int :=
  joinK (some (-1)) fun k1 =>
  ref58_Place_loop1 p_m p_name k1 (Int.toNat ((p_m.items.length : Int) - 0) + 1) 0

def ref58_added_loop1 (p_m : Machine) (p_x : Entry) (k1 : (Bool → (List Item) → Option (Machine × Int))) : Nat → Bool → Int → (List Item) → Option (Machine × Int)
  | 0, _, _, _ => none
  | m1 + 1, c1, i1, l1 => if (decide (i1 < (p_m.items.length : Int))) = true then
      joinK (fun (c3 : Bool) (l3 : (List Item)) =>
          (at? p_m.items i1).bind fun x2 =>
            (appO 64 l3 ([x2] : List Item)).bind fun _ =>
            ref58_added_loop1 p_m p_x k1 m1 c3 (IntKind.wrap .i64 (i1 + 1)) (l3 ++ ([x2] : List Item))) fun k2 =>
        (if (!c1) = true then (at? p_m.items i1).bind fun x1 =>
        some (!(Op.bytesLess x1.name p_x.name || x1.name == p_x.name)) else some false).bind fun c2 =>
        if c2 = true then
        (appO 64 l1 ([(Item.mk p_x.name p_x.count 0 0 false p_m.cycles 0)] : List Item)).bind fun _ =>
          k2 true (l1 ++ ([(Item.mk p_x.name p_x.count 0 0 false p_m.cycles 0)] : List Item))
      else
        k2 c1 l1
    else
      k1 c1 l1
def ref58_added (p_m : Machine) (p_x : Entry) : Option (Machine × Int) :=
  (ref58_Place p_m p_x.name).bind fun r1 =>
  if (decide (r1 ≥ 0)) = true then
  some ((Machine.mk [] 0), 7)
  else
  if ((p_m.items.length : Int) == 256) = true then
    some ((Machine.mk [] 0), 5)
  else
    joinK (fun (c4 : Bool) (l6 : (List Item)) =>
        joinK (fun (l8 : (List Item)) =>
            some ((Machine.mk l8 p_m.cycles), 0)) fun k3 =>
          if (!c4) = true then
          (appO 64 l6 ([(Item.mk p_x.name p_x.count 0 0 false p_m.cycles 0)] : List Item)).bind fun _ =>
            k3 (l6 ++ ([(Item.mk p_x.name p_x.count 0 0 false p_m.cycles 0)] : List Item))
        else
          k3 l6) fun k1 =>
      ref58_added_loop1 p_m p_x k1 (Int.toNat ((p_m.items.length : Int) - 0) + 1) false 0 ([] : List Item)

def ref58_Done (p_m : Machine) (p_x : Entry) : Option (Machine × Int) :=
  if (p_x.kind == 0) = true then
  (ref58_added p_m p_x).bind fun r1 =>
    some (r1.1, r1.2)
  else
  (ref58_Place p_m p_x.name).bind fun r2 =>
    if (decide (r2 < 0)) = true then
    some ((Machine.mk [] 0), 6)
  else
    joinK (fun (l4 : (List Item)) =>
        (at? p_m.items r2).bind fun x1 =>
          joinK (fun (i1 : Int) (s1 : (List UInt8)) (i2 : Int) (i3 : Int) (i4 : Int) (c1 : Bool) (i5 : Int) (i6 : Int) =>
            (at? l4 r2).bind fun x2 =>
              some ((Machine.mk (List.set l4 (Int.toNat r2) (Item.mk s1 i2 i3 i4 c1 i5 i6)) i1), 0)) fun k2 =>
          if (p_x.kind == 1) = true then
          if x1.faulty = true then
            some ((Machine.mk [] 0), 14)
          else
            if ((decide ((IntKind.wrap .i64 (p_m.cycles + p_x.count)) > 1048576)) || (decide ((IntKind.wrap .i64 (x1.used + (IntKind.wrap .i64 (p_x.count * p_x.strokes)))) > 1048576))) = true then
              some ((Machine.mk [] 0), 11)
            else
              k2 (IntKind.wrap .i64 (p_m.cycles + p_x.count)) x1.name x1.life (IntKind.wrap .i64 (x1.used + (IntKind.wrap .i64 (p_x.count * p_x.strokes)))) x1.faults x1.faulty x1.since (IntKind.wrap .i64 (x1.cycles + p_x.count))
        else
          if (p_x.kind == 2) = true then
            if x1.faulty = true then
              some ((Machine.mk [] 0), 14)
            else
              if (x1.faults == 4096) = true then
                some ((Machine.mk [] 0), 5)
              else
                k2 p_m.cycles x1.name x1.life x1.used (IntKind.wrap .i64 (x1.faults + 1)) true x1.since x1.cycles
          else
            if (p_x.kind == 3) = true then
              if (!x1.faulty) = true then
                some ((Machine.mk [] 0), 14)
              else
                k2 p_m.cycles x1.name x1.life x1.used x1.faults false x1.since x1.cycles
            else
              if (p_x.kind == 4) = true then
                k2 p_m.cycles p_x.name p_x.count 0 0 false p_m.cycles 0
              else
                if (p_x.kind == 5) = true then
                  (part? p_m.items 0 r2).bind fun l5 =>
                    (part? p_m.items (IntKind.wrap .i64 (r2 + 1)) (p_m.items.length : Int)).bind fun l6 =>
                    (appO 64 ([] : List Item) l5).bind fun _ =>
                    (appO 64 (([] : List Item) ++ l5) l6).bind fun _ =>
                    some ((Machine.mk ((([] : List Item) ++ l5) ++ l6) p_m.cycles), 0)
                else
                  k2 p_m.cycles x1.name x1.life x1.used x1.faults x1.faulty x1.since x1.cycles) fun k1 =>
      (appO 64 ([] : List Item) p_m.items).bind fun _ =>
      k1 (([] : List Item) ++ p_m.items)

def ref58_Do (p_m : Machine) (p_x : Entry) : Option (Machine × Int) :=
  (ref58_Check p_m).bind fun r1 =>
  if (r1 != 0) = true then
  some ((Machine.mk [] 0), r1)
  else
  (ref58_Right p_x).bind fun r2 =>
    if (r2 != 0) = true then
    some ((Machine.mk [] 0), r2)
  else
    (ref58_Done p_m p_x).bind fun r3 =>
      some (r3.1, r3.2)

def ref58_Run_loop1 (p_l : (List Entry)) (k1 : ((List Item) → Int → Option (Machine × Int × Int))) : Nat → Int → (List Item) → Int → Option (Machine × Int × Int)
  | 0, _, _, _ => none
  | m1 + 1, i1, l1, i2 => if (decide (i1 < (p_l.length : Int))) = true then
      joinK (fun (i3 : Int) (l2 : (List Item)) (i4 : Int) =>
          if (i3 != 0) = true then
            some ((Machine.mk [] 0), i1, i3)
          else
            ref58_Run_loop1 p_l k1 m1 (IntKind.wrap .i64 (i1 + 1)) l2 i4) fun k2 =>
        (at? p_l i1).bind fun x1 =>
        (ref58_Do (Machine.mk l1 i2) x1).bind fun r1 =>
        k2 r1.2 r1.1.items r1.1.cycles
    else
      k1 l1 i2
def ref58_Run (p_l : (List Entry)) : Option (Machine × Int × Int) :=
  if (decide ((p_l.length : Int) > 4096)) = true then
  some ((Machine.mk [] 0), 0, 5)
  else
  joinK (fun (l3 : (List Item)) (i5 : Int) =>
      some ((Machine.mk l3 i5), 0, 0)) fun k1 =>
    ref58_Run_loop1 p_l k1 (Int.toNat ((p_l.length : Int) - 0) + 1) 0 [] 0

def journal_Do (p_m : Machine) (p_x : Entry) : Option (Machine × Int) :=
  (journal_Check p_m).bind fun r1 =>
  if (r1 != 0) = true then
  some ((Machine.mk [] 0), r1)
  else
  (journal_Right p_x).bind fun r2 =>
    if (r2 != 0) = true then
    some ((Machine.mk [] 0), r2)
  else
    (journal_done p_m p_x).bind fun r3 =>
      some (r3.1, r3.2)

def slices_Equal_journal_Itemjournal_Item_loop1 (p_s1 : (List Item)) (p_s2 : (List Item)) (k1 : (Option Bool)) : Nat → Int → Option Bool
  | 0, _ => none
  | m1 + 1, i1 => if (decide (i1 < (p_s1.length : Int))) = true then
      (at? p_s1 i1).bind fun x1 =>
        (at? p_s2 i1).bind fun x2 =>
        if (!(x1 == x2)) = true then
        some false
      else
        slices_Equal_journal_Itemjournal_Item_loop1 p_s1 p_s2 k1 m1 (IntKind.wrap .i64 (i1 + 1))
    else
      k1
def slices_Equal_journal_Itemjournal_Item (p_s1 : (List Item)) (p_s2 : (List Item)) : Option Bool :=
  if ((p_s1.length : Int) != (p_s2.length : Int)) = true then
  some false
  else
  joinK (some true) fun k1 =>
    slices_Equal_journal_Itemjournal_Item_loop1 p_s1 p_s2 k1 (Int.toNat ((p_s1.length : Int) - 0) + 1) 0

def top_runMachines (p_a : Machine) (p_b : Machine) : Option Bool :=
  (if (p_a.cycles == p_b.cycles) = true then (slices_Equal_journal_Itemjournal_Item p_a.items p_b.items).bind fun r1 =>
  some r1 else some false).bind fun c1 =>
  some c1

def top_TopLogsGrow (p_l : (List Entry)) (p_x : Entry) : Option Bool :=
  (top_runEntries p_l).bind fun r1 =>
  if ((!r1.2) || (decide ((p_x.name.length : Int) > 60))) = true then
  (top_runLog).bind fun r2 =>
    some r2
  else
  (ref58_Run r1.1).bind fun r3 =>
    if (r3.2.2 != 0) = true then
    (top_runLog).bind fun r4 =>
      some r4
  else
    (journal_Run p_l).bind fun r5 =>
      (if (r5.2.2 != 0) = true then some true else (journal_Check r5.1).bind fun r6 =>
      some (r6 != 0)).bind fun c1 =>
      if c1 = true then
      some false
    else
      (journal_Do r5.1 p_x).bind fun r7 =>
        joinK (fun (i1 : Int) (i2 : Int) (l14 : (List Item)) (i3 : Int) =>
          (if (r7.2 != i2) = true then some true else (top_runMachines r7.1 (Machine.mk l14 i3)).bind fun r18 =>
            some (!r18)).bind fun c2 =>
            if c2 = true then
            some false
          else
            if (r7.2 != 0) = true then
              (if (i1 == (p_l.length : Int)) = true then (top_runLog).bind fun r19 =>
                some r19 else some false).bind fun c3 =>
                some c3
            else
              (journal_Check r7.1).bind fun r20 =>
                (if (r20 == 0) = true then (top_runLog).bind fun r21 =>
                some r21 else some false).bind fun c4 =>
                some c4) fun k1 =>
        (appO 40 ([] : List Entry) p_l).bind fun _ =>
        (appO 40 p_l ([p_x] : List Entry)).bind fun _ =>
        (journal_Run (p_l ++ ([p_x] : List Entry))).bind fun r8 =>
        k1 r8.2.1 r8.2.2 r8.1.items r8.1.cycles

def top_TopLogsParts_loop1 (k1 : ((List Item) → Int → Option Bool)) (l2 : (List Entry)) : Nat → Int → (List Item) → Int → Option Bool
  | 0, _, _, _ => none
  | m1 + 1, i1, l3, i2 => if (decide (i1 < (l2.length : Int))) = true then
      (at? l2 i1).bind fun x1 =>
        (journal_Do (Machine.mk l3 i2) x1).bind fun r10 =>
        if (r10.2 != 0) = true then
        some false
      else
        top_TopLogsParts_loop1 k1 l2 m1 (IntKind.wrap .i64 (i1 + 1)) r10.1.items r10.1.cycles
    else
      k1 l3 i2
def top_TopLogsParts (p_l : (List Entry)) (p_at : Int) : Option Bool :=
  (top_runEntries p_l).bind fun r1 =>
  if (!r1.2) = true then
  (top_runLog).bind fun r2 =>
    some r2
  else
  (ref58_Run r1.1).bind fun r3 =>
    if (r3.2.2 != 0) = true then
    (top_runLog).bind fun r4 =>
      some r4
  else
    (guardO ((IntKind.wrap .i64 ((p_l.length : Int) + 1)) != 0)).bind fun _ =>
      (journal_Log p_l).bind fun r5 =>
      (part? p_l 0 (Int.tmod (IntKind.wrap .i64 p_at) (IntKind.wrap .i64 ((p_l.length : Int) + 1)))).bind fun l1 =>
      (journal_Log l1).bind fun r6 =>
      (journal_Load r6.1).bind fun r7 =>
      (journal_Load r5.1).bind fun r8 =>
      (if (((IntKind.wrap .i64 ((IntKind.wrap .i64 ((IntKind.wrap .i64 (r5.2 + r6.2)) + r7.2.2)) + r8.2.2)) != 0) || (r7.2.1 != (Int.tmod (IntKind.wrap .i64 p_at) (IntKind.wrap .i64 ((p_l.length : Int) + 1))))) = true then some true else (strings_HasPrefix r5.1 r6.1).bind fun r9 =>
      some (!r9)).bind fun c1 =>
      if c1 = true then
      some false
    else
      joinK (fun (l4 : (List Item)) (i3 : Int) =>
          (top_runMachines (Machine.mk l4 i3) r8.1).bind fun r11 =>
            (if r11 = true then (top_runLog).bind fun r12 =>
            some r12 else some false).bind fun c2 =>
            some c2) fun k1 =>
        (part? p_l (Int.tmod (IntKind.wrap .i64 p_at) (IntKind.wrap .i64 ((p_l.length : Int) + 1))) (p_l.length : Int)).bind fun l2 =>
        top_TopLogsParts_loop1 k1 l2 (Int.toNat ((l2.length : Int) - 0) + 1) 0 r7.1.items r7.1.cycles

end Go.Proofs.YtpocodofhkaddaaGreatDoor.W
