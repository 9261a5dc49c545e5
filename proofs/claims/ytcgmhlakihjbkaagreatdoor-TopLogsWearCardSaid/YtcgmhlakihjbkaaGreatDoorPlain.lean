/- The plain functions. Written by our own program gen.py; Lean checks it. -/
import Derived.Test.YtcgmhlakihjbkaaGreatDoorTypes
import Derived.Test.YtcgmhlakihjbkaaGreatDoorExt
set_option linter.unusedVariables false
set_option maxRecDepth 100000
set_option maxHeartbeats 4000000
namespace Go.Proofs.YtcgmhlakihjbkaaGreatDoor.W
open Go Go.RowKit
def journal_in (p_n : Int) (p_least : Int) (p_most : Int) : Option Bool :=
  some ((decide (p_n ≥ p_least)) && (decide (p_n ≤ p_most)))

def lexer_class_loop1 (p_b : Int) (k1 : (Option Int)) : Nat → Int → Option Int
  | 0, _ => none
  | m1 + 1, i1 => if (decide (i1 < 6)) = true then
      (at? lexer_ranges i1).bind fun x1 =>
        if ((decide (x1.a0 ≤ p_b)) && (decide (p_b ≤ x1.a1))) = true then
        some (IntKind.wrap .i64 x1.a2)
      else
        lexer_class_loop1 p_b k1 m1 (IntKind.wrap .i64 (i1 + 1))
    else
      k1
def lexer_class (p_b : Int) : Option Int :=
  joinK ((idxB [43, 45, 42, 47, 40, 41, 91, 93, 123, 125, 60, 62, 61, 44, 59, 58, 124, 38, 33, 35, 46] p_b).bind fun r1 =>
  if (decide (r1 ≥ 0)) = true then
  some 4
  else
  some 0) fun k1 =>
  lexer_class_loop1 p_b k1 (Int.toNat (6 - 0) + 1) 0

def lexer_run_loop2 (p_s : (List UInt8)) (p_classes : (List Int)) (i1 : Int) (k3 : (Bool → Option Int)) : Nat → Bool → Int → Option Int
  | 0, _, _ => none
  | m2 + 1, c1, i2 => if (decide (i2 < (p_classes.length : Int))) = true then
      (at? p_classes i2).bind fun x1 =>
        (if c1 = true then some true else (byteAt p_s i1).bind fun b1 =>
        (lexer_class (b1.toNat : Int)).bind fun r1 =>
        some (r1 == x1)).bind fun c2 =>
        lexer_run_loop2 p_s p_classes i1 k3 m2 c2 (IntKind.wrap .i64 (i2 + 1))
    else
      k3 c1
def lexer_run_loop1 (p_s : (List UInt8)) (p_classes : (List Int)) (k1 : (Option Int)) : Nat → Int → Option Int
  | 0, _ => none
  | m1 + 1, i1 => if (decide (i1 < (p_s.length : Int))) = true then
      joinK (lexer_run_loop1 p_s p_classes k1 m1 (IntKind.wrap .i64 (i1 + 1))) fun k2 =>
        joinK (fun (c3 : Bool) =>
          if (!c3) = true then
            some i1
          else
            k2) fun k3 =>
        lexer_run_loop2 p_s p_classes i1 k3 (Int.toNat ((p_classes.length : Int) - 0) + 1) false 0
    else
      k1
def lexer_run (p_s : (List UInt8)) (p_classes : (List Int)) : Option Int :=
  joinK (some (p_s.length : Int)) fun k1 =>
  lexer_run_loop1 p_s p_classes k1 (Int.toNat ((p_s.length : Int) - 0) + 1) 0

def lexer_Word (p_s : (List UInt8)) : Option Int :=
  (if (p_s == []) = true then some true else (byteAt p_s 0).bind fun b1 =>
  (lexer_class (b1.toNat : Int)).bind fun r1 =>
  some (r1 != 1)).bind fun c1 =>
  (if c1 = true then some true else (lexer_run p_s ([1, 2, 3] : List Int)).bind fun r2 =>
  some (r2 != (p_s.length : Int))).bind fun c2 =>
  if c2 = true then
  some 3
  else
  if (decide ((p_s.length : Int) > 24)) = true then
    some 17
  else
    some 0

def journal_Check_loop1 (p_m : Machine) (k1 : (Option Int)) : Nat → Int → Option Int
  | 0, _ => none
  | m1 + 1, i1 => if (decide (i1 < (p_m.items.length : Int))) = true then
      (at? p_m.items i1).bind fun x1 =>
        (lexer_Word x1.name).bind fun r2 =>
        if (r2 != 0) = true then
        some r2
      else
        (if (decide (i1 > 0)) = true then (at? p_m.items (IntKind.wrap .i64 (i1 - 1))).bind fun x2 =>
          some (Op.bytesLess x1.name x2.name || x1.name == x2.name) else some false).bind fun c1 =>
          if c1 = true then
          some 9
        else
          (journal_in x1.life 1 1048576).bind fun r3 =>
            (if (!r3) = true then some true else (journal_in x1.used 0 1048576).bind fun r4 =>
            some (!r4)).bind fun c2 =>
            (if c2 = true then some true else (journal_in x1.faults 0 4096).bind fun r5 =>
            some (!r5)).bind fun c3 =>
            if c3 = true then
            some 2
          else
            (journal_in x1.since 0 p_m.cycles).bind fun r6 =>
              (if (!r6) = true then some true else (journal_in x1.cycles 0 (IntKind.wrap .i64 (p_m.cycles - x1.since))).bind fun r7 =>
              some (!r7)).bind fun c4 =>
              if c4 = true then
              some 2
            else
              if (x1.faulty && (x1.faults == 0)) = true then
                some 14
              else
                journal_Check_loop1 p_m k1 m1 (IntKind.wrap .i64 (i1 + 1))
    else
      k1
def journal_Check (p_m : Machine) : Option Int :=
  (journal_in p_m.cycles 0 1048576).bind fun r1 =>
  if (!r1) = true then
  some 2
  else
  if (decide ((p_m.items.length : Int) > 256)) = true then
    some 5
  else
    joinK (some 0) fun k1 =>
      journal_Check_loop1 p_m k1 (Int.toNat ((p_m.items.length : Int) - 0) + 1) 0

def journal_find_loop1 (p_m : Machine) (p_name : (List UInt8)) (k1 : (Int → Option (Int × Bool))) : Nat → Int → Int → Option (Int × Bool)
  | 0, _, _ => none
  | m1 + 1, i1, i2 => if (decide (i1 < i2)) = true then
      (at? p_m.items (IntKind.wrap .i64 ((IntKind.wrap .u64 (IntKind.wrap .i64 (i1 + i2))) / 2 ^ 1))).bind fun x1 =>
        (cmpS x1.name p_name).bind fun r1 =>
        if (decide (r1 < 0)) = true then
        journal_find_loop1 p_m p_name k1 m1 (IntKind.wrap .i64 ((IntKind.wrap .i64 ((IntKind.wrap .u64 (IntKind.wrap .i64 (i1 + i2))) / 2 ^ 1)) + 1)) i2
      else
        journal_find_loop1 p_m p_name k1 m1 i1 (IntKind.wrap .i64 ((IntKind.wrap .u64 (IntKind.wrap .i64 (i1 + i2))) / 2 ^ 1))
    else
      k1 i1
def journal_find (p_m : Machine) (p_name : (List UInt8)) : Option (Int × Bool) :=
  joinK (fun (i3 : Int) =>
    (if (decide (i3 < (p_m.items.length : Int))) = true then (at? p_m.items i3).bind fun x2 =>
      (cmpS x2.name p_name).bind fun r2 =>
      some (r2 == 0) else some false).bind fun c1 =>
      some (i3, c1)) fun k1 =>
  journal_find_loop1 p_m p_name k1 (p_m.items.length + 1) 0 (p_m.items.length : Int)

def journal_Left (p_m : Machine) (p_name : (List UInt8)) (p_strokes : Int) : Option (Int × Int) :=
  (journal_Check p_m).bind fun r1 =>
  if (r1 != 0) = true then
  some (0, r1)
  else
  (journal_find p_m p_name).bind fun r2 =>
    if (!r2.2) = true then
    some (0, 6)
  else
    (journal_in p_strokes 1 1048576).bind fun r3 =>
      if (!r3) = true then
      some (0, 2)
    else
      (at? p_m.items r2.1).bind fun x1 =>
        (at? p_m.items r2.1).bind fun x2 =>
        (guardO (p_strokes != 0)).bind fun _ =>
        some ((IntKind.wrap .i64 (Int.tdiv (IntKind.wrap .i64 ((IntKind.wrap .i64 ((if (IntKind.wrap .i64 (x1.life - x2.used)) > 0 then (IntKind.wrap .i64 (x1.life - x2.used)) else 0) + p_strokes)) - 1)) p_strokes)), 0)

def journal_Right (p_x : Entry) : Option Int :=
  (journal_in p_x.kind 0 5).bind fun r1 =>
  if (!r1) = true then
  some 1
  else
  (lexer_Word p_x.name).bind fun r2 =>
    if (r2 != 0) = true then
    some r2
  else
    joinK (fun (s1 : (List UInt8)) (c1 : Bool) (c2 : Bool) =>
        (if c1 = true then (journal_in p_x.count 1 1048576).bind fun r3 =>
          some (!r3) else some false).bind fun c3 =>
          (if (c3 || ((!c1) && (p_x.count != 0))) = true then some true else (if c2 = true then (journal_in p_x.strokes 0 1048576).bind fun r4 =>
          some (!r4) else some false).bind fun c5 =>
          some c5).bind fun c4 =>
          if (c4 || ((!c2) && (p_x.strokes != 0))) = true then
          some 2
        else
          some 0) fun k1 =>
      if (p_x.kind == 0) = true then
      k1 [112, 97, 114, 116] true false
    else
      if (p_x.kind == 1) = true then
        k1 [99, 121, 99, 108, 101, 115] true true
      else
        if (p_x.kind == 2) = true then
          k1 [102, 97, 117, 108, 116] false false
        else
          if (p_x.kind == 3) = true then
            k1 [114, 101, 112, 97, 105, 114] false false
          else
            if (p_x.kind == 4) = true then
              k1 [114, 101, 112, 108, 97, 99, 101] true false
            else
              if (p_x.kind == 5) = true then
                k1 [114, 101, 109, 111, 118, 101] false false
              else
                none

def journal_done (p_m : Machine) (p_x : Entry) : Option (Machine × Int) :=
  (journal_find p_m p_x.name).bind fun r1 =>
  if ((p_x.kind == 0) && r1.2) = true then
  some ((Machine.mk [] 0), 7)
  else
  if ((p_x.kind != 0) && (!r1.2)) = true then
    some ((Machine.mk [] 0), 6)
  else
    joinK (fun (l2 : (List Item)) =>
        joinK (fun (i1 : Int) (i2 : Int) (l7 : (List Item)) =>
            if (i1 != 0) = true then
              some ((Machine.mk [] 0), i1)
            else
              some ((Machine.mk l7 i2), 0)) fun k2 =>
          if (p_x.kind == 0) = true then
          if ((l2.length : Int) == 256) = true then
            k2 5 p_m.cycles l2
          else
            joinK (fun (l4 : (List Item)) =>
                k2 0 p_m.cycles l4) fun k3 =>
              (insO 64 l2 r1.1 ([(Item.mk p_x.name p_x.count 0 0 false p_m.cycles 0)] : List Item)).bind fun l3 =>
              k3 l3
        else
          if (p_x.kind == 1) = true then
            (at? l2 r1.1).bind fun x1 =>
              if x1.faulty = true then
              k2 14 p_m.cycles l2
            else
              if ((decide ((IntKind.wrap .i64 (p_m.cycles + p_x.count)) > 1048576)) || (decide ((IntKind.wrap .i64 (x1.used + (IntKind.wrap .i64 (p_x.count * p_x.strokes)))) > 1048576))) = true then
                k2 11 p_m.cycles l2
              else
                k2 0 (IntKind.wrap .i64 (p_m.cycles + p_x.count)) (List.set (List.set l2 (Int.toNat r1.1) (Item.mk x1.name x1.life x1.used x1.faults x1.faulty x1.since (IntKind.wrap .i64 (x1.cycles + p_x.count)))) (Int.toNat r1.1) (Item.mk x1.name x1.life (IntKind.wrap .i64 (x1.used + (IntKind.wrap .i64 (p_x.count * p_x.strokes)))) x1.faults x1.faulty x1.since (IntKind.wrap .i64 (x1.cycles + p_x.count))))
          else
            if (p_x.kind == 2) = true then
              (at? l2 r1.1).bind fun x2 =>
                if x2.faulty = true then
                k2 14 p_m.cycles l2
              else
                if (x2.faults == 4096) = true then
                  k2 5 p_m.cycles l2
                else
                  k2 0 p_m.cycles (List.set (List.set l2 (Int.toNat r1.1) (Item.mk x2.name x2.life x2.used x2.faults true x2.since x2.cycles)) (Int.toNat r1.1) (Item.mk x2.name x2.life x2.used (IntKind.wrap .i64 (x2.faults + 1)) true x2.since x2.cycles))
            else
              if (p_x.kind == 3) = true then
                (at? l2 r1.1).bind fun x3 =>
                  if (!x3.faulty) = true then
                  k2 14 p_m.cycles l2
                else
                  k2 0 p_m.cycles (List.set l2 (Int.toNat r1.1) (Item.mk x3.name x3.life x3.used x3.faults false x3.since x3.cycles))
              else
                if (p_x.kind == 4) = true then
                  joinK (fun (l5 : (List Item)) =>
                      k2 0 p_m.cycles l5) fun k4 =>
                    (at? l2 r1.1).bind fun x4 =>
                    k4 (List.set l2 (Int.toNat r1.1) (Item.mk p_x.name p_x.count 0 0 false p_m.cycles 0))
                else
                  if (p_x.kind == 5) = true then
                    (delO l2 r1.1 (IntKind.wrap .i64 (r1.1 + 1))).bind fun l6 =>
                      k2 0 p_m.cycles l6
                  else
                    none) fun k1 =>
      (appO 64 ([] : List Item) p_m.items).bind fun _ =>
      k1 p_m.items

def journal_Run_loop1 (p_l : (List Entry)) (k1 : ((List Item) → Int → Option (Machine × Int × Int))) : Nat → Int → (List Item) → Int → Option (Machine × Int × Int)
  | 0, _, _, _ => none
  | m1 + 1, i1, l1, i2 => if (decide (i1 < (p_l.length : Int))) = true then
      (at? p_l i1).bind fun x1 =>
        (journal_Right x1).bind fun r1 =>
        joinK (fun (i3 : Int) (l2 : (List Item)) (i4 : Int) =>
          if (i3 != 0) = true then
            some ((Machine.mk [] 0), i1, i3)
          else
            journal_Run_loop1 p_l k1 m1 (IntKind.wrap .i64 (i1 + 1)) l2 i4) fun k2 =>
        if (r1 == 0) = true then
        (journal_done (Machine.mk l1 i2) x1).bind fun r2 =>
          k2 r2.2 r2.1.items r2.1.cycles
      else
        k2 r1 l1 i2
    else
      k1 l1 i2
def journal_Run (p_l : (List Entry)) : Option (Machine × Int × Int) :=
  if (decide ((p_l.length : Int) > 4096)) = true then
  some ((Machine.mk [] 0), 0, 5)
  else
  joinK (fun (l3 : (List Item)) (i5 : Int) =>
      some ((Machine.mk l3 i5), 0, 0)) fun k1 =>
    journal_Run_loop1 p_l k1 (Int.toNat ((p_l.length : Int) - 0) + 1) 0 [] 0

def journal_text (p_x : Entry) : Option (List UInt8) :=
  joinK (fun (s1 : (List UInt8)) (c1 : Bool) (c2 : Bool) =>
    (catO s1 [32]).bind fun s2 =>
      (catO s2 p_x.name).bind fun s3 =>
      joinK (fun (s6 : (List UInt8)) =>
        joinK (fun (s9 : (List UInt8)) =>
            some s9) fun k3 =>
          if c2 = true then
          (itoa p_x.strokes).bind fun r2 =>
            (catO [32] r2).bind fun s7 =>
            (catO s6 s7).bind fun s8 =>
            k3 s8
        else
          k3 s6) fun k2 =>
      if c1 = true then
      (itoa p_x.count).bind fun r1 =>
        (catO [32] r1).bind fun s4 =>
        (catO s3 s4).bind fun s5 =>
        k2 s5
    else
      k2 s3) fun k1 =>
  if (p_x.kind == 0) = true then
  k1 [112, 97, 114, 116] true false
  else
  if (p_x.kind == 1) = true then
    k1 [99, 121, 99, 108, 101, 115] true true
  else
    if (p_x.kind == 2) = true then
      k1 [102, 97, 117, 108, 116] false false
    else
      if (p_x.kind == 3) = true then
        k1 [114, 101, 112, 97, 105, 114] false false
      else
        if (p_x.kind == 4) = true then
          k1 [114, 101, 112, 108, 97, 99, 101] true false
        else
          if (p_x.kind == 5) = true then
            k1 [114, 101, 109, 111, 118, 101] false false
          else
            none

def journal_mark_loop1 (p_s : (List UInt8)) (k1 : (Int → Option Int)) : Nat → Int → Int → Option Int
  | 0, _, _ => none
  | m1 + 1, i1, i2 => if (decide (i2 < (p_s.length : Int))) = true then
      (byteAt p_s i2).bind fun b1 =>
        journal_mark_loop1 p_s k1 m1 (Int.tmod (IntKind.wrap .i64 ((IntKind.wrap .i64 ((IntKind.wrap .i64 (i1 * 31)) + (IntKind.wrap .i64 (b1.toNat : Int)))) + 7)) 65521) (IntKind.wrap .i64 (i2 + 1))
    else
      k1 i1
def journal_mark (p_before : Int) (p_s : (List UInt8)) : Option Int :=
  joinK (fun (i3 : Int) =>
    some i3) fun k1 =>
  journal_mark_loop1 p_s k1 (Int.toNat ((p_s.length : Int) - 0) + 1) (Int.tmod p_before 65521) 0

def journal_Log_loop1 (p_l : (List Entry)) (k1 : ((List UInt8) → Option ((List UInt8) × Int))) : Nat → Int → Int → (List UInt8) → Option ((List UInt8) × Int)
  | 0, _, _, _ => none
  | m1 + 1, i1, i2, l1 => if (decide (i2 < (p_l.length : Int))) = true then
      (at? p_l i2).bind fun x1 =>
        (journal_text x1).bind fun r2 =>
        (journal_mark i1 r2).bind fun r3 =>
        (catO r2 [32, 59, 32]).bind fun s1 =>
        (itoa r3).bind fun r4 =>
        (catO s1 r4).bind fun s2 =>
        (catO s2 [10]).bind fun s3 =>
        (appO 1 l1 s3).bind fun _ =>
        if (decide (((l1 ++ s3).length : Int) > 262144)) = true then
        some ([], 17)
      else
        journal_Log_loop1 p_l k1 m1 r3 (IntKind.wrap .i64 (i2 + 1)) (l1 ++ s3)
    else
      k1 l1
def journal_Log (p_l : (List Entry)) : Option ((List UInt8) × Int) :=
  (journal_Run p_l).bind fun r1 =>
  if (r1.2.2 != 0) = true then
  some ([], r1.2.2)
  else
  joinK (fun (l3 : (List UInt8)) =>
      some (l3, 0)) fun k1 =>
    journal_Log_loop1 p_l k1 (Int.toNat ((p_l.length : Int) - 0) + 1) 0 0 ([] : List UInt8)

def law58_Four  : Option (List Entry) :=
  some ([(Entry.mk 0 [65] 100 0), (Entry.mk 1 [65] 3 20), (Entry.mk 2 [65] 0 0), (Entry.mk 3 [65] 0 0)] : List Entry)

def internal_stringslite_HasPrefix (p_s : (List UInt8)) (p_prefix : (List UInt8)) : Option Bool :=
  (if (decide ((p_s.length : Int) ≥ (p_prefix.length : Int))) = true then (cut p_s 0 (p_prefix.length : Int)).bind fun s1 =>
  some (s1 == p_prefix) else some false).bind fun c1 =>
  some c1

def internal_stringslite_CutPrefix (p_s : (List UInt8)) (p_prefix : (List UInt8)) : Option ((List UInt8) × Bool) :=
  (internal_stringslite_HasPrefix p_s p_prefix).bind fun r1 =>
  if (!r1) = true then
  some (p_s, false)
  else
  (cut p_s (p_prefix.length : Int) (p_s.length : Int)).bind fun s1 =>
    some (s1, true)

def strings_CutPrefix (p_s : (List UInt8)) (p_prefix : (List UInt8)) : Option ((List UInt8) × Bool) :=
  (internal_stringslite_CutPrefix p_s p_prefix).bind fun r1 =>
  some (r1.1, r1.2)

def lexer_Number (p_s : (List UInt8)) : Option Int :=
  (if (p_s == []) = true then some true else (lexer_run p_s ([2] : List Int)).bind fun r1 =>
  some (r1 != (p_s.length : Int))).bind fun c1 =>
  (if c1 = true then some true else (byteAt p_s 0).bind fun b2 =>
  some (((b2.toNat : Int) == 48) && (!(p_s == [48])))).bind fun c2 =>
  if c2 = true then
  some 3
  else
  if (decide ((p_s.length : Int) > 7)) = true then
    some 17
  else
    some 0

def internal_strconv_Atoi_loop1 (s2 : (List UInt8)) (k3 : (Int → Option (Int × Unit))) : Nat → Int → Int → Option (Int × Unit)
  | 0, _, _ => none
  | m1 + 1, i1, i2 => if (decide (i2 < ((bytesI s2).length : Int))) = true then
      (at? (bytesI s2) i2).bind fun x1 =>
        if (decide ((IntKind.wrap .u8 (x1 - 48)) > 9)) = true then
        none
      else
        internal_strconv_Atoi_loop1 s2 k3 m1 (IntKind.wrap .i64 ((IntKind.wrap .i64 (i1 * 10)) + (IntKind.wrap .i64 (IntKind.wrap .u8 (x1 - 48))))) (IntKind.wrap .i64 (i2 + 1))
    else
      k3 i1
def internal_strconv_Atoi (p_s : (List UInt8)) : Option (Int × Unit) :=
  joinK (none) fun k1 =>
  if ((decide ((0 : Int) < (p_s.length : Int))) && (decide ((p_s.length : Int) < 19))) = true then
  joinK (fun (s2 : (List UInt8)) =>
      joinK (fun (i3 : Int) =>
          joinK (fun (i4 : Int) =>
              some (i4, ())) fun k4 =>
            (byteAt p_s 0).bind fun b3 =>
            if ((b3.toNat : Int) == 45) = true then
            k4 (IntKind.wrap .i64 (0 - i3))
          else
            k4 i3) fun k3 =>
        internal_strconv_Atoi_loop1 s2 k3 (Int.toNat (((bytesI s2).length : Int) - 0) + 1) 0 0) fun k2 =>
    (byteAt p_s 0).bind fun b1 =>
    (if ((b1.toNat : Int) == 45) = true then some true else (byteAt p_s 0).bind fun b2 =>
    some ((b2.toNat : Int) == 43)).bind fun c1 =>
    if c1 = true then
    (cut p_s 1 (p_s.length : Int)).bind fun s1 =>
      if (decide ((s1.length : Int) < 1)) = true then
      none
    else
      k2 s1
  else
    k2 p_s
  else
  k1

def strconv_Atoi (p_s : (List UInt8)) : Option (Int × Unit) :=
  (internal_strconv_Atoi p_s).bind fun r1 =>
  some (r1.1, ())

def lexer_Value (p_s : (List UInt8)) : Option (Int × Int) :=
  (strings_CutPrefix p_s [45]).bind fun r1 =>
  (lexer_Number r1.1).bind fun r2 =>
  if (r2 != 0) = true then
  some (0, r2)
  else
  if (r1.2 && (r1.1 == [48])) = true then
    some (0, 3)
  else
    (strconv_Atoi p_s).bind fun r3 =>
      some (r3.1, 0)

def journal_Read_loop1 (r1 : ((List (List UInt8)))) (k1 : (Int → Option (Entry × Int))) (k2 : (Option (Entry × Int))) : Nat → Int → Option (Entry × Int)
  | 0, _ => none
  | m1 + 1, i1 => if (decide (i1 < 6)) = true then
      joinK (fun (c1 : Bool) =>
          if c1 = true then
            k1 i1
          else
            journal_Read_loop1 r1 k1 k2 m1 (IntKind.wrap .i64 (i1 + 1))) fun k3 =>
        if (i1 == 0) = true then
        (at? r1 0).bind fun x1 =>
          k3 (([112, 97, 114, 116] : List UInt8) == x1)
      else
        if (i1 == 1) = true then
          (at? r1 0).bind fun x2 =>
            k3 (([99, 121, 99, 108, 101, 115] : List UInt8) == x2)
        else
          if (i1 == 2) = true then
            (at? r1 0).bind fun x3 =>
              k3 (([102, 97, 117, 108, 116] : List UInt8) == x3)
          else
            if (i1 == 3) = true then
              (at? r1 0).bind fun x4 =>
                k3 (([114, 101, 112, 97, 105, 114] : List UInt8) == x4)
            else
              if (i1 == 4) = true then
                (at? r1 0).bind fun x5 =>
                  k3 (([114, 101, 112, 108, 97, 99, 101] : List UInt8) == x5)
              else
                if (i1 == 5) = true then
                  (at? r1 0).bind fun x6 =>
                    k3 (([114, 101, 109, 111, 118, 101] : List UInt8) == x6)
                else
                  none
    else
      k2
def journal_Read (p_s : (List UInt8)) : Option (Entry × Int) :=
  if (decide ((p_s.length : Int) > 4096)) = true then
  some ((Entry.mk 0 [] 0 0), 17)
  else
  (splitS p_s [32]).bind fun r1 =>
    joinK (fun (i2 : Int) =>
      if ((decide (i2 < 0)) || (decide ((r1.length : Int) < 2))) = true then
        some ((Entry.mk 0 [] 0 0), 4)
      else
        (at? r1 1).bind fun x7 =>
          joinK (fun (i3 : Int) =>
            joinK (fun (i4 : Int) =>
                (journal_Right (Entry.mk i2 x7 i3 i4)).bind fun r4 =>
                  (if (r4 != 0) = true then some true else (journal_text (Entry.mk i2 x7 i3 i4)).bind fun r5 =>
                  some (!(r5 == p_s))).bind fun c4 =>
                  if c4 = true then
                  some ((Entry.mk 0 [] 0 0), 4)
                else
                  some ((Entry.mk i2 x7 i3 i4), 0)) fun k6 =>
              joinK (fun (c3 : Bool) =>
                if c3 = true then
                  (at? r1 3).bind fun x9 =>
                    (lexer_Value x9).bind fun r3 =>
                    k6 r3.1
                else
                  k6 0) fun k7 =>
              if (i2 == 0) = true then
              k7 false
            else
              if (i2 == 1) = true then
                k7 (decide ((r1.length : Int) > 3))
              else
                if (i2 == 2) = true then
                  k7 false
                else
                  if (i2 == 3) = true then
                    k7 false
                  else
                    if (i2 == 4) = true then
                      k7 false
                    else
                      if (i2 == 5) = true then
                        k7 false
                      else
                        none) fun k4 =>
          joinK (fun (c2 : Bool) =>
            if c2 = true then
              (at? r1 2).bind fun x8 =>
                (lexer_Value x8).bind fun r2 =>
                k4 r2.1
            else
              k4 0) fun k5 =>
          if (i2 == 0) = true then
          k5 (decide ((r1.length : Int) > 2))
        else
          if (i2 == 1) = true then
            k5 (decide ((r1.length : Int) > 2))
          else
            if (i2 == 2) = true then
              k5 false
            else
              if (i2 == 3) = true then
                k5 false
              else
                if (i2 == 4) = true then
                  k5 (decide ((r1.length : Int) > 2))
                else
                  if (i2 == 5) = true then
                    k5 false
                  else
                    none) fun k1 =>
    joinK (k1 (-1)) fun k2 =>
    journal_Read_loop1 r1 k1 k2 (Int.toNat (6 - 0) + 1) 0

def journal_readAll_loop1 : Nat → (List UInt8) → (List Item) → Int → Int → Int → Int → Option (JRead × Int)
  | 0, _, _, _, _, _, _ => none
  | m1 + 1, s1, l2, i1, i2, i3, i4 => if (!(s1 == [])) = true then
      (cutAt s1 [10]).bind fun r1 =>
        joinK (fun (i8 : Int) (l4 : (List Item)) (i9 : Int) (i10 : Int) (i11 : Int) (i12 : Int) =>
          if (i8 != 0) = true then
            some ((JRead.mk (Machine.mk l4 i9) i10 i11 i12), i8)
          else
            journal_readAll_loop1 m1 r1.2.1 l4 i9 i10 i11 i12) fun k1 =>
        if (i3 == 4096) = true then
        k1 5 l2 i1 i2 i3 i4
      else
        if (!r1.2.2) = true then
          k1 18 l2 i1 i2 i3 i4
        else
          (lastIdx r1.1 [32, 59, 32]).bind fun r2 =>
            (if (decide (r2 < 0)) = true then some true else (cut r1.1 (IntKind.wrap .i64 (r2 + 3)) (r1.1.length : Int)).bind fun s2 =>
            (cut r1.1 0 r2).bind fun s3 =>
            (journal_mark i2 s3).bind fun r3 =>
            (itoa r3).bind fun r4 =>
            some (!(s2 == r4))).bind fun c1 =>
            if c1 = true then
            k1 19 l2 i1 i2 i3 i4
          else
            (cut r1.1 0 r2).bind fun s4 =>
              (journal_Read s4).bind fun r5 =>
              if (r5.2 != 0) = true then
              k1 4 l2 i1 i2 i3 i4
            else
              joinK (fun (i5 : Int) (l3 : (List Item)) (i6 : Int) =>
                  if (i5 != 0) = true then
                    k1 i5 l2 i1 i2 i3 i4
                  else
                    joinK (fun (i7 : Int) =>
                        k1 0 l3 i6 i7 (IntKind.wrap .i64 (i3 + 1)) (IntKind.wrap .i64 ((IntKind.wrap .i64 (i4 + (r1.1.length : Int))) + 1))) fun k3 =>
                      (cut r1.1 0 r2).bind fun s5 =>
                      (journal_mark i2 s5).bind fun r7 =>
                      k3 r7) fun k2 =>
                (journal_done (Machine.mk l2 i1) r5.1).bind fun r6 =>
                k2 r6.2 r6.1.items r6.1.cycles
    else
      some ((JRead.mk (Machine.mk l2 i1) i2 i3 i4), 0)
def journal_readAll (p_text : (List UInt8)) : Option (JRead × Int) :=
  journal_readAll_loop1 (p_text.length + 1) p_text [] 0 0 0 0

def journal_Load (p_text : (List UInt8)) : Option (Machine × Int × Int) :=
  if (decide ((p_text.length : Int) > 262144)) = true then
  some ((Machine.mk [] 0), 0, 17)
  else
  (journal_readAll p_text).bind fun r1 =>
    if (r1.2 != 0) = true then
    some ((Machine.mk [] 0), r1.1.lines, r1.2)
  else
    some (r1.1.m, r1.1.lines, 0)

def top_runLog  : Option Bool :=
  (law58_Four).bind fun r1 =>
  (journal_Log r1).bind fun r2 =>
  (journal_Load r2.1).bind fun r3 =>
  (journal_Left r3.1 [65] 20).bind fun r4 =>
  some ((((IntKind.wrap .i64 ((IntKind.wrap .i64 (r2.2 + r3.2.2)) + r4.2)) == 0) && (r3.2.1 == 4)) && (r4.1 == 2))

def journal_Due_loop1 (p_m : Machine) (k1 : ((List (List UInt8)) → Option ((List (List UInt8)) × Int))) : Nat → Int → (List (List UInt8)) → Option ((List (List UInt8)) × Int)
  | 0, _, _ => none
  | m1 + 1, i1, l1 => if (decide (i1 < (p_m.items.length : Int))) = true then
      joinK (fun (l3 : (List (List UInt8))) =>
          journal_Due_loop1 p_m k1 m1 (IntKind.wrap .i64 (i1 + 1)) l3) fun k2 =>
        (at? p_m.items i1).bind fun x1 =>
        if (x1.faulty || (decide (x1.used ≥ x1.life))) = true then
        (appO 16 l1 ([x1.name] : List (List UInt8))).bind fun _ =>
          k2 (l1 ++ ([x1.name] : List (List UInt8)))
      else
        k2 l1
    else
      k1 l1
def journal_Due (p_m : Machine) : Option ((List (List UInt8)) × Int) :=
  (journal_Check p_m).bind fun r1 =>
  if (r1 != 0) = true then
  some ([], r1)
  else
  joinK (fun (l4 : (List (List UInt8))) =>
      some (l4, 0)) fun k1 =>
    journal_Due_loop1 p_m k1 (Int.toNat ((p_m.items.length : Int) - 0) + 1) 0 ([] : List (List UInt8))

def journal_Do (p_m : Machine) (p_x : Entry) : Option (Machine × Int) :=
  (journal_Check p_m).bind fun r1 =>
  if (r1 != 0) = true then
  some ((Machine.mk [] 0), r1)
  else
  (journal_Right p_x).bind fun r2 =>
    if (r2 != 0) = true then
    some ((Machine.mk [] 0), r2)
  else
    (journal_done p_m p_x).bind fun r3 =>
      some (r3.1, r3.2)

def sequence_ends_behind_loop1 (p_s : Step) (k1 : (Bool → Bool → Bool → Bool → Bool → Bool → Option Ends6)) : Nat → Int → Bool → Bool → Bool → Bool → Bool → Bool → Option Ends6
  | 0, _, _, _, _, _, _, _ => none
  | m1 + 1, i1, c1, c2, c3, c4, c5, c6 => if (decide (i1 < (p_s.strokes.length : Int))) = true then
      (at? p_s.strokes i1).bind fun x1 =>
        if (x1.actuator == 0) = true then
        sequence_ends_behind_loop1 p_s k1 m1 (IntKind.wrap .i64 (i1 + 1)) x1.out c2 c3 c4 c5 c6
      else
        if (x1.actuator == 1) = true then
          sequence_ends_behind_loop1 p_s k1 m1 (IntKind.wrap .i64 (i1 + 1)) c1 x1.out c3 c4 c5 c6
        else
          if (x1.actuator == 2) = true then
            sequence_ends_behind_loop1 p_s k1 m1 (IntKind.wrap .i64 (i1 + 1)) c1 c2 x1.out c4 c5 c6
          else
            if (x1.actuator == 3) = true then
              sequence_ends_behind_loop1 p_s k1 m1 (IntKind.wrap .i64 (i1 + 1)) c1 c2 c3 x1.out c5 c6
            else
              if (x1.actuator == 4) = true then
                sequence_ends_behind_loop1 p_s k1 m1 (IntKind.wrap .i64 (i1 + 1)) c1 c2 c3 c4 x1.out c6
              else
                if (x1.actuator == 5) = true then
                  sequence_ends_behind_loop1 p_s k1 m1 (IntKind.wrap .i64 (i1 + 1)) c1 c2 c3 c4 c5 x1.out
                else
                  none
    else
      k1 c1 c2 c3 c4 c5 c6
def sequence_ends_behind (p_x : Ends6) (p_s : Step) : Option Ends6 :=
  joinK (fun (c7 : Bool) (c8 : Bool) (c9 : Bool) (c10 : Bool) (c11 : Bool) (c12 : Bool) =>
    some (Ends6.mk c7 c8 c9 c10 c11 c12)) fun k1 =>
  sequence_ends_behind_loop1 p_s k1 (Int.toNat ((p_s.strokes.length : Int) - 0) + 1) 0 p_x.a0 p_x.a1 p_x.a2 p_x.a3 p_x.a4 p_x.a5

def stroke_known (p_n : Int) : Option Bool :=
  some ((decide (p_n ≥ 0)) && (decide (p_n < 6)))

def stroke_CheckStep_loop1 (p_x : Step) (k1 : (Option Int)) : Nat → Int → Int → Option Int
  | 0, _, _ => none
  | m1 + 1, i1, i2 => if (decide (i2 < (p_x.strokes.length : Int))) = true then
      (at? p_x.strokes i2).bind fun x1 =>
        (stroke_known x1.actuator).bind fun r1 =>
        if (!r1) = true then
        some 2
      else
        if (x1.actuator == i1) = true then
          some 7
        else
          if (decide (x1.actuator < i1)) = true then
            some 9
          else
            stroke_CheckStep_loop1 p_x k1 m1 x1.actuator (IntKind.wrap .i64 (i2 + 1))
    else
      k1
def stroke_CheckStep (p_x : Step) : Option Int :=
  if ((p_x.strokes.length : Int) == 0) = true then
  some 13
  else
  if (decide ((p_x.strokes.length : Int) > 6)) = true then
    some 5
  else
    joinK (if ((decide (p_x.wait < 0)) || (decide (p_x.wait > 1000000))) = true then
      some 2
    else
      some 0) fun k1 =>
      stroke_CheckStep_loop1 p_x k1 (Int.toNat ((p_x.strokes.length : Int) - 0) + 1) (-1) 0

def ref13_Actuator (p_n : Int) : Option Bool :=
  some ((decide (p_n ≥ 0)) && (decide (p_n < 6)))

def ref03_Time (p_n : Int) : Option Bool :=
  some ((decide (p_n ≥ 0)) && (decide (p_n ≤ 1000000)))

def ref13_CheckStep_loop1 (p_x : Step) (k1 : (Option Int)) : Nat → Int → Option Int
  | 0, _ => none
  | m1 + 1, i1 => if (decide (i1 < (p_x.strokes.length : Int))) = true then
      (at? p_x.strokes i1).bind fun x1 =>
        (ref13_Actuator x1.actuator).bind fun r1 =>
        if (!r1) = true then
        some 2
      else
        (if (decide (i1 > 0)) = true then (at? p_x.strokes i1).bind fun x2 =>
          (at? p_x.strokes (IntKind.wrap .i64 (i1 - 1))).bind fun x3 =>
          some (x2.actuator == x3.actuator) else some false).bind fun c1 =>
          if c1 = true then
          some 7
        else
          (if (decide (i1 > 0)) = true then (at? p_x.strokes i1).bind fun x4 =>
            (at? p_x.strokes (IntKind.wrap .i64 (i1 - 1))).bind fun x5 =>
            some (decide (x4.actuator < x5.actuator)) else some false).bind fun c2 =>
            if c2 = true then
            some 9
          else
            ref13_CheckStep_loop1 p_x k1 m1 (IntKind.wrap .i64 (i1 + 1))
    else
      k1
def ref13_CheckStep (p_x : Step) : Option Int :=
  if ((p_x.strokes.length : Int) == 0) = true then
  some 13
  else
  if (decide ((p_x.strokes.length : Int) > 6)) = true then
    some 5
  else
    joinK ((ref03_Time p_x.wait).bind fun r2 =>
      if (!r2) = true then
      some 2
    else
      some 0) fun k1 =>
      ref13_CheckStep_loop1 p_x k1 (Int.toNat ((p_x.strokes.length : Int) - 0) + 1) 0

def ref13_Way_loop1 (p_x : Step) (p_actuator : Int) (k1 : (Option Int)) : Nat → Int → Option Int
  | 0, _ => none
  | m1 + 1, i1 => if (decide (i1 < (p_x.strokes.length : Int))) = true then
      (at? p_x.strokes i1).bind fun x1 =>
        if (x1.actuator == p_actuator) = true then
        (at? p_x.strokes i1).bind fun x2 =>
          if x2.out = true then
          some 1
        else
          some (-1)
      else
        ref13_Way_loop1 p_x p_actuator k1 m1 (IntKind.wrap .i64 (i1 + 1))
    else
      k1
def ref13_Way (p_x : Step) (p_actuator : Int) : Option Int :=
  joinK (some 0) fun k1 =>
  ref13_Way_loop1 p_x p_actuator k1 (Int.toNat ((p_x.strokes.length : Int) - 0) + 1) 0

def ref13_Suits_loop1 (p_x : Step) (p_ends : (List Bool)) (k1 : (Option Bool)) : Nat → Int → Option Bool
  | 0, _ => none
  | m1 + 1, i1 => if (decide (i1 < (p_x.strokes.length : Int))) = true then
      (at? p_x.strokes i1).bind fun x1 =>
        (if (decide (x1.actuator ≥ (p_ends.length : Int))) = true then some true else (at? p_ends x1.actuator).bind fun x2 =>
        some (x2 == x1.out)).bind fun c1 =>
        if c1 = true then
        some false
      else
        ref13_Suits_loop1 p_x p_ends k1 m1 (IntKind.wrap .i64 (i1 + 1))
    else
      k1
def ref13_Suits (p_x : Step) (p_ends : (List Bool)) : Option Bool :=
  joinK (some true) fun k1 =>
  ref13_Suits_loop1 p_x p_ends k1 (Int.toNat ((p_x.strokes.length : Int) - 0) + 1) 0

def ref13_After_loop1 (p_x : Step) (k1 : ((List Bool) → Option (List Bool))) : Nat → Int → (List Bool) → Option (List Bool)
  | 0, _, _ => none
  | m1 + 1, i1, l2 => if (decide (i1 < (p_x.strokes.length : Int))) = true then
      (at? p_x.strokes i1).bind fun x1 =>
        (at? p_x.strokes i1).bind fun x2 =>
        (at? l2 x1.actuator).bind fun x3 =>
        ref13_After_loop1 p_x k1 m1 (IntKind.wrap .i64 (i1 + 1)) (List.set l2 (Int.toNat x1.actuator) x2.out)
    else
      k1 l2
def ref13_After (p_x : Step) (p_ends : (List Bool)) : Option (List Bool) :=
  (appO 1 ([] : List Bool) p_ends).bind fun _ =>
  joinK (fun (l3 : (List Bool)) =>
    some l3) fun k1 =>
  ref13_After_loop1 p_x k1 (Int.toNat ((p_x.strokes.length : Int) - 0) + 1) 0 (([] : List Bool) ++ p_ends)

def ref14_Few_loop1 (p_s : Sequence) (k1 : (Option Bool)) : Nat → Int → Option Bool
  | 0, _ => none
  | m1 + 1, i1 => if (decide (i1 < (p_s.steps.length : Int))) = true then
      (at? p_s.steps i1).bind fun x1 =>
        if (decide ((x1.strokes.length : Int) > 40)) = true then
        some false
      else
        ref14_Few_loop1 p_s k1 m1 (IntKind.wrap .i64 (i1 + 1))
    else
      k1
def ref14_Few (p_s : Sequence) : Option Bool :=
  if (decide ((p_s.steps.length : Int) > 128)) = true then
  some false
  else
  joinK (some true) fun k1 =>
    ref14_Few_loop1 p_s k1 (Int.toNat ((p_s.steps.length : Int) - 0) + 1) 0

def sequence_fits_loop1 (p_s : Sequence) (p_step : Step) (k1 : (Option Int)) : Nat → Int → Option Int
  | 0, _ => none
  | m1 + 1, i1 => if (decide (i1 < (p_step.strokes.length : Int))) = true then
      (at? p_step.strokes i1).bind fun x1 =>
        if (decide (x1.actuator ≥ p_s.actuators)) = true then
        some 6
      else
        sequence_fits_loop1 p_s p_step k1 m1 (IntKind.wrap .i64 (i1 + 1))
    else
      k1
def sequence_fits_loop2 (p_step : Step) (p_x : Ends6) (k2 : (Option Int)) : Nat → Int → Option Int
  | 0, _ => none
  | m2 + 1, i2 => if (decide (i2 < (p_step.strokes.length : Int))) = true then
      (at? p_step.strokes i2).bind fun x2 =>
        joinK (fun (c1 : Bool) =>
          if c1 = true then
            some 14
          else
            sequence_fits_loop2 p_step p_x k2 m2 (IntKind.wrap .i64 (i2 + 1))) fun k3 =>
        if (x2.actuator == 0) = true then
        k3 (p_x.a0 == x2.out)
      else
        if (x2.actuator == 1) = true then
          k3 (p_x.a1 == x2.out)
        else
          if (x2.actuator == 2) = true then
            k3 (p_x.a2 == x2.out)
          else
            if (x2.actuator == 3) = true then
              k3 (p_x.a3 == x2.out)
            else
              if (x2.actuator == 4) = true then
                k3 (p_x.a4 == x2.out)
              else
                if (x2.actuator == 5) = true then
                  k3 (p_x.a5 == x2.out)
                else
                  none
    else
      k2
def sequence_fits (p_s : Sequence) (p_step : Step) (p_x : Ends6) : Option Int :=
  (stroke_CheckStep p_step).bind fun r1 =>
  if (r1 != 0) = true then
  some r1
  else
  joinK (joinK (some 0) fun k2 =>
    sequence_fits_loop2 p_step p_x k2 (Int.toNat ((p_step.strokes.length : Int) - 0) + 1) 0) fun k1 =>
    sequence_fits_loop1 p_s p_step k1 (Int.toNat ((p_step.strokes.length : Int) - 0) + 1) 0

def slices_Index_boolbool_loop1 (p_s : (List Bool)) (p_v : Bool) (k1 : (Option Int)) : Nat → Int → Option Int
  | 0, _ => none
  | m1 + 1, i1 => if (decide (i1 < (p_s.length : Int))) = true then
      (at? p_s i1).bind fun x1 =>
        if (p_v == x1) = true then
        some i1
      else
        slices_Index_boolbool_loop1 p_s p_v k1 m1 (IntKind.wrap .i64 (i1 + 1))
    else
      k1
def slices_Index_boolbool (p_s : (List Bool)) (p_v : Bool) : Option Int :=
  joinK (some (-1)) fun k1 =>
  slices_Index_boolbool_loop1 p_s p_v k1 (Int.toNat ((p_s.length : Int) - 0) + 1) 0

def slices_Contains_boolbool (p_s : (List Bool)) (p_v : Bool) : Option Bool :=
  (slices_Index_boolbool p_s p_v).bind fun r1 =>
  some (decide (r1 ≥ 0))

def sequence_Check_loop2 (k2 : (Bool → Bool → Bool → Bool → Bool → Bool → Bool → Bool → Bool → Bool → Bool → Bool → Option Int)) (x1 : Step) (r2 : (Ends6)) : Nat → Int → Bool → Bool → Bool → Bool → Bool → Bool → Option Int
  | 0, _, _, _, _, _, _, _ => none
  | m2 + 1, i2, c13, c14, c15, c16, c17, c18 => if (decide (i2 < (x1.strokes.length : Int))) = true then
      (at? x1.strokes i2).bind fun x2 =>
        if (x2.actuator == 0) = true then
        sequence_Check_loop2 k2 x1 r2 m2 (IntKind.wrap .i64 (i2 + 1)) true c14 c15 c16 c17 c18
      else
        if (x2.actuator == 1) = true then
          sequence_Check_loop2 k2 x1 r2 m2 (IntKind.wrap .i64 (i2 + 1)) c13 true c15 c16 c17 c18
        else
          if (x2.actuator == 2) = true then
            sequence_Check_loop2 k2 x1 r2 m2 (IntKind.wrap .i64 (i2 + 1)) c13 c14 true c16 c17 c18
          else
            if (x2.actuator == 3) = true then
              sequence_Check_loop2 k2 x1 r2 m2 (IntKind.wrap .i64 (i2 + 1)) c13 c14 c15 true c17 c18
            else
              if (x2.actuator == 4) = true then
                sequence_Check_loop2 k2 x1 r2 m2 (IntKind.wrap .i64 (i2 + 1)) c13 c14 c15 c16 true c18
              else
                if (x2.actuator == 5) = true then
                  sequence_Check_loop2 k2 x1 r2 m2 (IntKind.wrap .i64 (i2 + 1)) c13 c14 c15 c16 c17 true
                else
                  none
    else
      k2 r2.a0 r2.a1 r2.a2 r2.a3 r2.a4 r2.a5 c13 c14 c15 c16 c17 c18
def sequence_Check_loop1 (p_s : Sequence) (k1 : (Bool → Bool → Bool → Bool → Bool → Bool → Bool → Bool → Bool → Bool → Bool → Bool → Option Int)) : Nat → Int → Bool → Bool → Bool → Bool → Bool → Bool → Bool → Bool → Bool → Bool → Bool → Bool → Option Int
  | 0, _, _, _, _, _, _, _, _, _, _, _, _, _ => none
  | m1 + 1, i1, c1, c2, c3, c4, c5, c6, c7, c8, c9, c10, c11, c12 => if (decide (i1 < (p_s.steps.length : Int))) = true then
      joinK (fun (c19 : Bool) (c20 : Bool) (c21 : Bool) (c22 : Bool) (c23 : Bool) (c24 : Bool) (c25 : Bool) (c26 : Bool) (c27 : Bool) (c28 : Bool) (c29 : Bool) (c30 : Bool) =>
          sequence_Check_loop1 p_s k1 m1 (IntKind.wrap .i64 (i1 + 1)) c19 c20 c21 c22 c23 c24 c25 c26 c27 c28 c29 c30) fun k2 =>
        (at? p_s.steps i1).bind fun x1 =>
        (sequence_fits p_s x1 (Ends6.mk c1 c2 c3 c4 c5 c6)).bind fun r1 =>
        if (r1 != 0) = true then
        some r1
      else
        (sequence_ends_behind (Ends6.mk c1 c2 c3 c4 c5 c6) x1).bind fun r2 =>
          sequence_Check_loop2 k2 x1 r2 (Int.toNat ((x1.strokes.length : Int) - 0) + 1) 0 c7 c8 c9 c10 c11 c12
    else
      k1 c1 c2 c3 c4 c5 c6 c7 c8 c9 c10 c11 c12
def sequence_Check (p_s : Sequence) : Option Int :=
  if ((decide (p_s.actuators < 1)) || (decide (p_s.actuators > 6))) = true then
  some 2
  else
  if ((p_s.steps.length : Int) == 0) = true then
    some 13
  else
    if (decide ((p_s.steps.length : Int) > 64)) = true then
      some 5
    else
      joinK (fun (c31 : Bool) (c32 : Bool) (c33 : Bool) (c34 : Bool) (c35 : Bool) (c36 : Bool) (c37 : Bool) (c38 : Bool) (c39 : Bool) (c40 : Bool) (c41 : Bool) (c42 : Bool) =>
          if (!((Ends6.mk c31 c32 c33 c34 c35 c36) == (Ends6.mk false false false false false false))) = true then
            some 9
          else
            (part? ([c37, c38, c39, c40, c41, c42] : List Bool) 0 p_s.actuators).bind fun l1 =>
              (slices_Contains_boolbool l1 false).bind fun r3 =>
              if r3 = true then
              some 13
            else
              some 0) fun k1 =>
        sequence_Check_loop1 p_s k1 (Int.toNat ((p_s.steps.length : Int) - 0) + 1) 0 false false false false false false false false false false false false

def ref14_steps_loop2 (p_s : Sequence) (x1 : Step) (k3 : (Option Int)) : Nat → Int → Option Int
  | 0, _ => none
  | m2 + 1, i2 => if (decide (i2 < (x1.strokes.length : Int))) = true then
      (at? x1.strokes i2).bind fun x2 =>
        if (decide (x2.actuator ≥ p_s.actuators)) = true then
        some 6
      else
        ref14_steps_loop2 p_s x1 k3 m2 (IntKind.wrap .i64 (i2 + 1))
    else
      k3
def ref14_steps_loop1 (p_s : Sequence) (k1 : ((List Bool) → Option Int)) : Nat → (List Bool) → Int → Option Int
  | 0, _, _ => none
  | m1 + 1, l1, i1 => if (decide (i1 < (p_s.steps.length : Int))) = true then
      joinK (fun (l2 : (List Bool)) =>
          ref14_steps_loop1 p_s k1 m1 l2 (IntKind.wrap .i64 (i1 + 1))) fun k2 =>
        (at? p_s.steps i1).bind fun x1 =>
        (ref13_CheckStep x1).bind fun r1 =>
        if (r1 != 0) = true then
        some r1
      else
        joinK ((ref13_Suits x1 l1).bind fun r2 =>
          if (!r2) = true then
          some 14
        else
          (ref13_After x1 l1).bind fun r3 =>
            k2 r3) fun k3 =>
          ref14_steps_loop2 p_s x1 k3 (Int.toNat ((x1.strokes.length : Int) - 0) + 1) 0
    else
      k1 l1
def ref14_steps_loop3 (p_s : Sequence) (l3 : (List Bool)) (k4 : (Option Int)) : Nat → Int → Option Int
  | 0, _ => none
  | m3 + 1, i3 => if (decide (i3 < p_s.actuators)) = true then
      (at? l3 i3).bind fun x3 =>
        if x3 = true then
        some 9
      else
        ref14_steps_loop3 p_s l3 k4 m3 (IntKind.wrap .i64 (i3 + 1))
    else
      k4
def ref14_steps (p_s : Sequence) : Option Int :=
  (guardO ((decide (0 ≤ p_s.actuators) && decide (p_s.actuators * 1 ≤ 140737488355328)) && decide (p_s.actuators ≤ 4611686018427387904))).bind fun _ =>
  joinK (fun (l3 : (List Bool)) =>
    joinK (some 0) fun k4 =>
      ref14_steps_loop3 p_s l3 k4 (Int.toNat (p_s.actuators - 0) + 1) 0) fun k1 =>
  ref14_steps_loop1 p_s k1 (Int.toNat ((p_s.steps.length : Int) - 0) + 1) (List.replicate (Int.toNat p_s.actuators) false) 0

def ref14_moves_loop1 (p_s : Sequence) (p_actuator : Int) (k1 : (Option Bool)) : Nat → Int → Option Bool
  | 0, _ => none
  | m1 + 1, i1 => if (decide (i1 < (p_s.steps.length : Int))) = true then
      (at? p_s.steps i1).bind fun x1 =>
        (ref13_Way x1 p_actuator).bind fun r1 =>
        if (r1 != 0) = true then
        some true
      else
        ref14_moves_loop1 p_s p_actuator k1 m1 (IntKind.wrap .i64 (i1 + 1))
    else
      k1
def ref14_moves (p_s : Sequence) (p_actuator : Int) : Option Bool :=
  joinK (some false) fun k1 =>
  ref14_moves_loop1 p_s p_actuator k1 (Int.toNat ((p_s.steps.length : Int) - 0) + 1) 0

def ref14_Check_loop1 (p_s : Sequence) (k1 : (Option Int)) : Nat → Int → Option Int
  | 0, _ => none
  | m1 + 1, i1 => if (decide (i1 < p_s.actuators)) = true then
      (ref14_moves p_s i1).bind fun r2 =>
        if (!r2) = true then
        some 13
      else
        ref14_Check_loop1 p_s k1 m1 (IntKind.wrap .i64 (i1 + 1))
    else
      k1
def ref14_Check (p_s : Sequence) : Option Int :=
  if ((decide (p_s.actuators < 1)) || (decide (p_s.actuators > 6))) = true then
  some 2
  else
  if ((p_s.steps.length : Int) == 0) = true then
    some 13
  else
    if (decide ((p_s.steps.length : Int) > 64)) = true then
      some 5
    else
      (ref14_steps p_s).bind fun r1 =>
        if (r1 != 0) = true then
        some r1
      else
        joinK (some 0) fun k1 =>
          ref14_Check_loop1 p_s k1 (Int.toNat (p_s.actuators - 0) + 1) 0

def sequence_Moves_loop2 (p_actuator : Int) (x1 : Step) (k3 : (Bool → Option ((List Int) × Int))) (k4 : (Option ((List Int) × Int))) : Nat → Int → Option ((List Int) × Int)
  | 0, _ => none
  | m2 + 1, i2 => if (decide (i2 < (x1.strokes.length : Int))) = true then
      (at? x1.strokes i2).bind fun x2 =>
        if (x2.actuator == p_actuator) = true then
        k3 (decide (i2 ≥ 0))
      else
        sequence_Moves_loop2 p_actuator x1 k3 k4 m2 (IntKind.wrap .i64 (i2 + 1))
    else
      k4
def sequence_Moves_loop1 (p_s : Sequence) (k1 : ((List Int) → Option ((List Int) × Int))) (p_actuator : Int) : Nat → Int → (List Int) → Option ((List Int) × Int)
  | 0, _, _ => none
  | m1 + 1, i1, l1 => if (decide (i1 < (p_s.steps.length : Int))) = true then
      joinK (fun (l3 : (List Int)) =>
          sequence_Moves_loop1 p_s k1 p_actuator m1 (IntKind.wrap .i64 (i1 + 1)) l3) fun k2 =>
        (at? p_s.steps i1).bind fun x1 =>
        joinK (fun (c1 : Bool) =>
          if c1 = true then
            (appO 8 l1 ([i1] : List Int)).bind fun _ =>
              k2 (l1 ++ ([i1] : List Int))
          else
            k2 l1) fun k3 =>
        joinK (k3 (decide (((-1) : Int) ≥ 0))) fun k4 =>
        sequence_Moves_loop2 p_actuator x1 k3 k4 (Int.toNat ((x1.strokes.length : Int) - 0) + 1) 0
    else
      k1 l1
def sequence_Moves (p_s : Sequence) (p_actuator : Int) : Option ((List Int) × Int) :=
  (sequence_Check p_s).bind fun r1 =>
  if (r1 != 0) = true then
  some ([], r1)
  else
  if ((decide (p_actuator < 0)) || (decide (p_actuator ≥ p_s.actuators))) = true then
    some ([], 2)
  else
    joinK (fun (l4 : (List Int)) =>
        some (l4, 0)) fun k1 =>
      sequence_Moves_loop1 p_s k1 p_actuator (Int.toNat ((p_s.steps.length : Int) - 0) + 1) 0 ([] : List Int)

def top_TopLogsWear_loop1 (r4 : ((List Int) × Int)) (r5 : (Machine × Int × Int)) (r6 : (Int × Int)) (k1 : (Option Bool)) : Nat → Int → Option Bool
  | 0, _ => none
  | m1 + 1, i1 => if (decide (i1 < (([(IntKind.wrap .i64 (r6.1 - 1)), r6.1] : List Int).length : Int))) = true then
      joinK (top_TopLogsWear_loop1 r4 r5 r6 k1 m1 (IntKind.wrap .i64 (i1 + 1))) fun k2 =>
        (at? ([(IntKind.wrap .i64 (r6.1 - 1)), r6.1] : List Int) i1).bind fun x1 =>
        if (x1 == 0) = true then
        k2
      else
        (journal_Do r5.1 (Entry.mk 1 [65] x1 (r4.1.length : Int))).bind fun r7 =>
          (journal_Due r7.1).bind fun r8 =>
          (journal_Left r7.1 [65] (r4.1.length : Int)).bind fun r9 =>
          if ((((IntKind.wrap .i64 ((IntKind.wrap .i64 (r7.2 + r8.2)) + r9.2)) != 0) || (!(((r8.1.length : Int) == 1) == (x1 == r6.1)))) || (r9.1 != (IntKind.wrap .i64 (r6.1 - x1)))) = true then
          some false
        else
          k2
    else
      k1
def top_TopLogsWear (p_s : Sequence) (p_actuator : Int) (p_life : Int) : Option Bool :=
  (ref14_Few p_s).bind fun r1 =>
  (if (!r1) = true then some true else (ref14_Check p_s).bind fun r2 =>
  some (r2 != 0)).bind fun c1 =>
  if c1 = true then
  (top_runLog).bind fun r3 =>
    some r3
  else
  (guardO (p_s.actuators != 0)).bind fun _ =>
    (sequence_Moves p_s (Int.tmod (IntKind.wrap .i64 p_actuator) p_s.actuators)).bind fun r4 =>
    if ((r4.2 != 0) || ((r4.1.length : Int) == 0)) = true then
    some false
  else
    (journal_Run ([(Entry.mk 0 [65] (IntKind.wrap .i64 ((IntKind.wrap .i64 p_life) + 1)) 0)] : List Entry)).bind fun r5 =>
      (journal_Left r5.1 [65] (r4.1.length : Int)).bind fun r6 =>
      if (((IntKind.wrap .i64 (r5.2.2 + r6.2)) != 0) || (decide (r6.1 < 1))) = true then
      some false
    else
      joinK ((top_runLog).bind fun r10 =>
        some r10) fun k1 =>
        top_TopLogsWear_loop1 r4 r5 r6 k1 (Int.toNat ((([(IntKind.wrap .i64 (r6.1 - 1)), r6.1] : List Int).length : Int) - 0) + 1) 0

end Go.Proofs.YtcgmhlakihjbkaaGreatDoor.W
