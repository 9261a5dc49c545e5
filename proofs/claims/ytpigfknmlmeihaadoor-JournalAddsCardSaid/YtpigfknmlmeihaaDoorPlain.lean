/- The plain functions. Written by our own program gen.py; Lean checks it. -/
import Derived.Test.YtpigfknmlmeihaaDoorTypes
import Derived.Test.YtpigfknmlmeihaaDoorExt
set_option linter.unusedVariables false
set_option maxRecDepth 100000
set_option maxHeartbeats 4000000
namespace Go.Proofs.YtpigfknmlmeihaaDoor.W
open Go Go.RowKit
def law58_own_loop1 (p_m : Machine) (k1 : ((List Item) → Option Machine)) : Nat → Int → (List Item) → Option Machine
  | 0, _, _ => none
  | m1 + 1, i1, l1 => if (decide (i1 < (p_m.items.length : Int))) = true then
      (at? p_m.items i1).bind fun x1 =>
        (appO 64 l1 ([x1] : List Item)).bind fun _ =>
        law58_own_loop1 p_m k1 m1 (IntKind.wrap .i64 (i1 + 1)) (l1 ++ ([x1] : List Item))
    else
      k1 l1
def law58_own (p_m : Machine) : Option Machine :=
  joinK (fun (l3 : (List Item)) =>
    some (Machine.mk l3 p_m.cycles)) fun k1 =>
  law58_own_loop1 p_m k1 (Int.toNat ((p_m.items.length : Int) - 0) + 1) 0 ([] : List Item)

def ref58_Few_loop1 (p_m : Machine) (k1 : (Option Bool)) : Nat → Int → Option Bool
  | 0, _ => none
  | m1 + 1, i1 => if (decide (i1 < (p_m.items.length : Int))) = true then
      (at? p_m.items i1).bind fun x1 =>
        if (decide ((x1.name.length : Int) > 60)) = true then
        some false
      else
        ref58_Few_loop1 p_m k1 m1 (IntKind.wrap .i64 (i1 + 1))
    else
      k1
def ref58_Few (p_m : Machine) : Option Bool :=
  if (((decide ((p_m.items.length : Int) > 10)) && (decide ((p_m.items.length : Int) < 256))) || (decide ((p_m.items.length : Int) > 512))) = true then
  some false
  else
  joinK (some true) fun k1 =>
    ref58_Few_loop1 p_m k1 (Int.toNat ((p_m.items.length : Int) - 0) + 1) 0

def law58_few (p_m : Machine) (p_name : (List UInt8)) : Option Bool :=
  (law58_own p_m).bind fun r1 =>
  (ref58_Few r1).bind fun r2 =>
  some (r2 && (decide ((p_name.length : Int) ≤ 60)))

def journal_in (p_n : Int) (p_least : Int) (p_most : Int) : Option Bool :=
  some ((decide (p_n ≥ p_least)) && (decide (p_n ≤ p_most)))

def lexer_class_loop1 (p_b : Int) (k1 : (Option Int)) : Nat → Int → Option Int
  | 0, _ => none
  | m1 + 1, i1 => if (decide (i1 < 6)) = true then
      (at? lexer_ranges i1).bind fun x1 =>
        if ((decide (x1.a0 ≤ p_b)) && (decide (p_b ≤ x1.a1))) = true then
        some (IntKind.wrap .i64 x1.a2)
      else
        lexer_class_loop1 p_b k1 m1 (IntKind.wrap .i64 (i1 + 1))
    else
      k1
def lexer_class (p_b : Int) : Option Int :=
  joinK ((idxB [43, 45, 42, 47, 40, 41, 91, 93, 123, 125, 60, 62, 61, 44, 59, 58, 124, 38, 33, 35, 46] p_b).bind fun r1 =>
  if (decide (r1 ≥ 0)) = true then
  some 4
  else
  some 0) fun k1 =>
  lexer_class_loop1 p_b k1 (Int.toNat (6 - 0) + 1) 0

def lexer_run_loop2 (p_s : (List UInt8)) (p_classes : (List Int)) (i1 : Int) (k3 : (Bool → Option Int)) : Nat → Bool → Int → Option Int
  | 0, _, _ => none
  | m2 + 1, c1, i2 => if (decide (i2 < (p_classes.length : Int))) = true then
      (at? p_classes i2).bind fun x1 =>
        (if c1 = true then some true else (byteAt p_s i1).bind fun b1 =>
        (lexer_class (b1.toNat : Int)).bind fun r1 =>
        some (r1 == x1)).bind fun c2 =>
        lexer_run_loop2 p_s p_classes i1 k3 m2 c2 (IntKind.wrap .i64 (i2 + 1))
    else
      k3 c1
def lexer_run_loop1 (p_s : (List UInt8)) (p_classes : (List Int)) (k1 : (Option Int)) : Nat → Int → Option Int
  | 0, _ => none
  | m1 + 1, i1 => if (decide (i1 < (p_s.length : Int))) = true then
      joinK (lexer_run_loop1 p_s p_classes k1 m1 (IntKind.wrap .i64 (i1 + 1))) fun k2 =>
        joinK (fun (c3 : Bool) =>
          if (!c3) = true then
            some i1
          else
            k2) fun k3 =>
        lexer_run_loop2 p_s p_classes i1 k3 (Int.toNat ((p_classes.length : Int) - 0) + 1) false 0
    else
      k1
def lexer_run (p_s : (List UInt8)) (p_classes : (List Int)) : Option Int :=
  joinK (some (p_s.length : Int)) fun k1 =>
  lexer_run_loop1 p_s p_classes k1 (Int.toNat ((p_s.length : Int) - 0) + 1) 0

def lexer_Word (p_s : (List UInt8)) : Option Int :=
  (if (p_s == []) = true then some true else (byteAt p_s 0).bind fun b1 =>
  (lexer_class (b1.toNat : Int)).bind fun r1 =>
  some (r1 != 1)).bind fun c1 =>
  (if c1 = true then some true else (lexer_run p_s ([1, 2, 3] : List Int)).bind fun r2 =>
  some (r2 != (p_s.length : Int))).bind fun c2 =>
  if c2 = true then
  some 3
  else
  if (decide ((p_s.length : Int) > 24)) = true then
    some 17
  else
    some 0

def journal_Check_loop1 (p_m : Machine) (k1 : (Option Int)) : Nat → Int → Option Int
  | 0, _ => none
  | m1 + 1, i1 => if (decide (i1 < (p_m.items.length : Int))) = true then
      (at? p_m.items i1).bind fun x1 =>
        (lexer_Word x1.name).bind fun r2 =>
        if (r2 != 0) = true then
        some r2
      else
        (if (decide (i1 > 0)) = true then (at? p_m.items (IntKind.wrap .i64 (i1 - 1))).bind fun x2 =>
          some (Op.bytesLess x1.name x2.name || x1.name == x2.name) else some false).bind fun c1 =>
          if c1 = true then
          some 9
        else
          (journal_in x1.life 1 1048576).bind fun r3 =>
            (if (!r3) = true then some true else (journal_in x1.used 0 1048576).bind fun r4 =>
            some (!r4)).bind fun c2 =>
            (if c2 = true then some true else (journal_in x1.faults 0 4096).bind fun r5 =>
            some (!r5)).bind fun c3 =>
            if c3 = true then
            some 2
          else
            (journal_in x1.since 0 p_m.cycles).bind fun r6 =>
              (if (!r6) = true then some true else (journal_in x1.cycles 0 (IntKind.wrap .i64 (p_m.cycles - x1.since))).bind fun r7 =>
              some (!r7)).bind fun c4 =>
              if c4 = true then
              some 2
            else
              if (x1.faulty && (x1.faults == 0)) = true then
                some 14
              else
                journal_Check_loop1 p_m k1 m1 (IntKind.wrap .i64 (i1 + 1))
    else
      k1
def journal_Check (p_m : Machine) : Option Int :=
  (journal_in p_m.cycles 0 1048576).bind fun r1 =>
  if (!r1) = true then
  some 2
  else
  if (decide ((p_m.items.length : Int) > 256)) = true then
    some 5
  else
    joinK (some 0) fun k1 =>
      journal_Check_loop1 p_m k1 (Int.toNat ((p_m.items.length : Int) - 0) + 1) 0

def journal_Right (p_x : Entry) : Option Int :=
  (journal_in p_x.kind 0 5).bind fun r1 =>
  if (!r1) = true then
  some 1
  else
  (lexer_Word p_x.name).bind fun r2 =>
    if (r2 != 0) = true then
    some r2
  else
    joinK (fun (s1 : (List UInt8)) (c1 : Bool) (c2 : Bool) =>
        (if c1 = true then (journal_in p_x.count 1 1048576).bind fun r3 =>
          some (!r3) else some false).bind fun c3 =>
          (if (c3 || ((!c1) && (p_x.count != 0))) = true then some true else (if c2 = true then (journal_in p_x.strokes 0 1048576).bind fun r4 =>
          some (!r4) else some false).bind fun c5 =>
          some c5).bind fun c4 =>
          if (c4 || ((!c2) && (p_x.strokes != 0))) = true then
          some 2
        else
          some 0) fun k1 =>
      if (p_x.kind == 0) = true then
      k1 [112, 97, 114, 116] true false
    else
      if (p_x.kind == 1) = true then
        k1 [99, 121, 99, 108, 101, 115] true true
      else
        if (p_x.kind == 2) = true then
          k1 [102, 97, 117, 108, 116] false false
        else
          if (p_x.kind == 3) = true then
            k1 [114, 101, 112, 97, 105, 114] false false
          else
            if (p_x.kind == 4) = true then
              k1 [114, 101, 112, 108, 97, 99, 101] true false
            else
              if (p_x.kind == 5) = true then
                k1 [114, 101, 109, 111, 118, 101] false false
              else
                none

def journal_find_loop1 (p_m : Machine) (p_name : (List UInt8)) (k1 : (Int → Option (Int × Bool))) : Nat → Int → Int → Option (Int × Bool)
  | 0, _, _ => none
  | m1 + 1, i1, i2 => if (decide (i1 < i2)) = true then
      (at? p_m.items (IntKind.wrap .i64 ((IntKind.wrap .u64 (IntKind.wrap .i64 (i1 + i2))) / 2 ^ 1))).bind fun x1 =>
        (cmpS x1.name p_name).bind fun r1 =>
        if (decide (r1 < 0)) = true then
        journal_find_loop1 p_m p_name k1 m1 (IntKind.wrap .i64 ((IntKind.wrap .i64 ((IntKind.wrap .u64 (IntKind.wrap .i64 (i1 + i2))) / 2 ^ 1)) + 1)) i2
      else
        journal_find_loop1 p_m p_name k1 m1 i1 (IntKind.wrap .i64 ((IntKind.wrap .u64 (IntKind.wrap .i64 (i1 + i2))) / 2 ^ 1))
    else
      k1 i1
def journal_find (p_m : Machine) (p_name : (List UInt8)) : Option (Int × Bool) :=
  joinK (fun (i3 : Int) =>
    (if (decide (i3 < (p_m.items.length : Int))) = true then (at? p_m.items i3).bind fun x2 =>
      (cmpS x2.name p_name).bind fun r2 =>
      some (r2 == 0) else some false).bind fun c1 =>
      some (i3, c1)) fun k1 =>
  journal_find_loop1 p_m p_name k1 (p_m.items.length + 1) 0 (p_m.items.length : Int)

def journal_done (p_m : Machine) (p_x : Entry) : Option (Machine × Int) :=
  (journal_find p_m p_x.name).bind fun r1 =>
  if ((p_x.kind == 0) && r1.2) = true then
  some ((Machine.mk [] 0), 7)
  else
  if ((p_x.kind != 0) && (!r1.2)) = true then
    some ((Machine.mk [] 0), 6)
  else
    joinK (fun (l3 : (List Item)) =>
        joinK (fun (i1 : Int) (i2 : Int) (l10 : (List Item)) =>
            if (i1 != 0) = true then
              some ((Machine.mk [] 0), i1)
            else
              some ((Machine.mk l10 i2), 0)) fun k2 =>
          if (p_x.kind == 0) = true then
          if ((l3.length : Int) == 256) = true then
            k2 5 p_m.cycles l3
          else
            joinK (fun (l7 : (List Item)) =>
                k2 0 p_m.cycles l7) fun k3 =>
              (insO 64 l3 r1.1 ([(Item.mk p_x.name p_x.count 0 0 false p_m.cycles 0)] : List Item)).bind fun l4 =>
              k3 l4
        else
          if (p_x.kind == 1) = true then
            (at? l3 r1.1).bind fun x1 =>
              if x1.faulty = true then
              k2 14 p_m.cycles l3
            else
              if ((decide ((IntKind.wrap .i64 (p_m.cycles + p_x.count)) > 1048576)) || (decide ((IntKind.wrap .i64 (x1.used + (IntKind.wrap .i64 (p_x.count * p_x.strokes)))) > 1048576))) = true then
                k2 11 p_m.cycles l3
              else
                k2 0 (IntKind.wrap .i64 (p_m.cycles + p_x.count)) (List.set (List.set l3 (Int.toNat r1.1) (Item.mk x1.name x1.life x1.used x1.faults x1.faulty x1.since (IntKind.wrap .i64 (x1.cycles + p_x.count)))) (Int.toNat r1.1) (Item.mk x1.name x1.life (IntKind.wrap .i64 (x1.used + (IntKind.wrap .i64 (p_x.count * p_x.strokes)))) x1.faults x1.faulty x1.since (IntKind.wrap .i64 (x1.cycles + p_x.count))))
          else
            if (p_x.kind == 2) = true then
              (at? l3 r1.1).bind fun x2 =>
                if x2.faulty = true then
                k2 14 p_m.cycles l3
              else
                if (x2.faults == 4096) = true then
                  k2 5 p_m.cycles l3
                else
                  k2 0 p_m.cycles (List.set (List.set l3 (Int.toNat r1.1) (Item.mk x2.name x2.life x2.used x2.faults true x2.since x2.cycles)) (Int.toNat r1.1) (Item.mk x2.name x2.life x2.used (IntKind.wrap .i64 (x2.faults + 1)) true x2.since x2.cycles))
            else
              if (p_x.kind == 3) = true then
                (at? l3 r1.1).bind fun x3 =>
                  if (!x3.faulty) = true then
                  k2 14 p_m.cycles l3
                else
                  k2 0 p_m.cycles (List.set l3 (Int.toNat r1.1) (Item.mk x3.name x3.life x3.used x3.faults false x3.since x3.cycles))
              else
                if (p_x.kind == 4) = true then
                  joinK (fun (l8 : (List Item)) =>
                      k2 0 p_m.cycles l8) fun k4 =>
                    (at? l3 r1.1).bind fun x4 =>
                    k4 (List.set l3 (Int.toNat r1.1) (Item.mk p_x.name p_x.count 0 0 false p_m.cycles 0))
                else
                  if (p_x.kind == 5) = true then
                    (delO l3 r1.1 (IntKind.wrap .i64 (r1.1 + 1))).bind fun l9 =>
                      k2 0 p_m.cycles l9
                  else
                    none) fun k1 =>
      (appO 64 ([] : List Item) p_m.items).bind fun _ =>
      k1 p_m.items

def journal_Do (p_m : Machine) (p_x : Entry) : Option (Machine × Int) :=
  (journal_Check p_m).bind fun r1 =>
  if (r1 != 0) = true then
  some ((Machine.mk [] 0), r1)
  else
  (journal_Right p_x).bind fun r2 =>
    if (r2 != 0) = true then
    some ((Machine.mk [] 0), r2)
  else
    (journal_done p_m p_x).bind fun r3 =>
      some (r3.1, r3.2)

def journal_Due_loop1 (p_m : Machine) (k1 : ((List (List UInt8)) → Option ((List (List UInt8)) × Int))) : Nat → Int → (List (List UInt8)) → Option ((List (List UInt8)) × Int)
  | 0, _, _ => none
  | m1 + 1, i1, l1 => if (decide (i1 < (p_m.items.length : Int))) = true then
      joinK (fun (l3 : (List (List UInt8))) =>
          journal_Due_loop1 p_m k1 m1 (IntKind.wrap .i64 (i1 + 1)) l3) fun k2 =>
        (at? p_m.items i1).bind fun x1 =>
        if (x1.faulty || (decide (x1.used ≥ x1.life))) = true then
        (appO 16 l1 ([x1.name] : List (List UInt8))).bind fun _ =>
          k2 (l1 ++ ([x1.name] : List (List UInt8)))
      else
        k2 l1
    else
      k1 l1
def journal_Due (p_m : Machine) : Option ((List (List UInt8)) × Int) :=
  (journal_Check p_m).bind fun r1 =>
  if (r1 != 0) = true then
  some ([], r1)
  else
  joinK (fun (l4 : (List (List UInt8))) =>
      some (l4, 0)) fun k1 =>
    journal_Due_loop1 p_m k1 (Int.toNat ((p_m.items.length : Int) - 0) + 1) 0 ([] : List (List UInt8))

def journal_Left (p_m : Machine) (p_name : (List UInt8)) (p_strokes : Int) : Option (Int × Int) :=
  (journal_Check p_m).bind fun r1 =>
  if (r1 != 0) = true then
  some (0, r1)
  else
  (journal_find p_m p_name).bind fun r2 =>
    if (!r2.2) = true then
    some (0, 6)
  else
    (journal_in p_strokes 1 1048576).bind fun r3 =>
      if (!r3) = true then
      some (0, 2)
    else
      (at? p_m.items r2.1).bind fun x1 =>
        (at? p_m.items r2.1).bind fun x2 =>
        (guardO (p_strokes != 0)).bind fun _ =>
        some ((IntKind.wrap .i64 (Int.tdiv (IntKind.wrap .i64 ((IntKind.wrap .i64 ((if (IntKind.wrap .i64 (x1.life - x2.used)) > 0 then (IntKind.wrap .i64 (x1.life - x2.used)) else 0) + p_strokes)) - 1)) p_strokes)), 0)

def journal_Run_loop1 (p_l : (List Entry)) (k1 : ((List Item) → Int → Option (Machine × Int × Int))) : Nat → Int → (List Item) → Int → Option (Machine × Int × Int)
  | 0, _, _, _ => none
  | m1 + 1, i1, l1, i2 => if (decide (i1 < (p_l.length : Int))) = true then
      (at? p_l i1).bind fun x1 =>
        (journal_Right x1).bind fun r1 =>
        joinK (fun (i3 : Int) (l2 : (List Item)) (i4 : Int) =>
          if (i3 != 0) = true then
            some ((Machine.mk [] 0), i1, i3)
          else
            journal_Run_loop1 p_l k1 m1 (IntKind.wrap .i64 (i1 + 1)) l2 i4) fun k2 =>
        if (r1 == 0) = true then
        (journal_done (Machine.mk l1 i2) x1).bind fun r2 =>
          k2 r2.2 r2.1.items r2.1.cycles
      else
        k2 r1 l1 i2
    else
      k1 l1 i2
def journal_Run (p_l : (List Entry)) : Option (Machine × Int × Int) :=
  if (decide ((p_l.length : Int) > 4096)) = true then
  some ((Machine.mk [] 0), 0, 5)
  else
  joinK (fun (l3 : (List Item)) (i5 : Int) =>
      some ((Machine.mk l3 i5), 0, 0)) fun k1 =>
    journal_Run_loop1 p_l k1 (Int.toNat ((p_l.length : Int) - 0) + 1) 0 [] 0

def journal_text (p_x : Entry) : Option (List UInt8) :=
  joinK (fun (s1 : (List UInt8)) (c1 : Bool) (c2 : Bool) =>
    (catO s1 [32]).bind fun s2 =>
      (catO s2 p_x.name).bind fun s3 =>
      joinK (fun (s6 : (List UInt8)) =>
        joinK (fun (s9 : (List UInt8)) =>
            some s9) fun k3 =>
          if c2 = true then
          (itoa p_x.strokes).bind fun r2 =>
            (catO [32] r2).bind fun s7 =>
            (catO s6 s7).bind fun s8 =>
            k3 s8
        else
          k3 s6) fun k2 =>
      if c1 = true then
      (itoa p_x.count).bind fun r1 =>
        (catO [32] r1).bind fun s4 =>
        (catO s3 s4).bind fun s5 =>
        k2 s5
    else
      k2 s3) fun k1 =>
  if (p_x.kind == 0) = true then
  k1 [112, 97, 114, 116] true false
  else
  if (p_x.kind == 1) = true then
    k1 [99, 121, 99, 108, 101, 115] true true
  else
    if (p_x.kind == 2) = true then
      k1 [102, 97, 117, 108, 116] false false
    else
      if (p_x.kind == 3) = true then
        k1 [114, 101, 112, 97, 105, 114] false false
      else
        if (p_x.kind == 4) = true then
          k1 [114, 101, 112, 108, 97, 99, 101] true false
        else
          if (p_x.kind == 5) = true then
            k1 [114, 101, 109, 111, 118, 101] false false
          else
            none

def journal_mark_loop1 (p_s : (List UInt8)) (k1 : (Int → Option Int)) : Nat → Int → Int → Option Int
  | 0, _, _ => none
  | m1 + 1, i1, i2 => if (decide (i2 < (p_s.length : Int))) = true then
      (byteAt p_s i2).bind fun b1 =>
        journal_mark_loop1 p_s k1 m1 (Int.tmod (IntKind.wrap .i64 ((IntKind.wrap .i64 ((IntKind.wrap .i64 (i1 * 31)) + (IntKind.wrap .i64 (b1.toNat : Int)))) + 7)) 65521) (IntKind.wrap .i64 (i2 + 1))
    else
      k1 i1
def journal_mark (p_before : Int) (p_s : (List UInt8)) : Option Int :=
  joinK (fun (i3 : Int) =>
    some i3) fun k1 =>
  journal_mark_loop1 p_s k1 (Int.toNat ((p_s.length : Int) - 0) + 1) (Int.tmod p_before 65521) 0

def journal_Log_loop1 (p_l : (List Entry)) (k1 : ((List UInt8) → Option ((List UInt8) × Int))) : Nat → Int → Int → (List UInt8) → Option ((List UInt8) × Int)
  | 0, _, _, _ => none
  | m1 + 1, i1, i2, l1 => if (decide (i2 < (p_l.length : Int))) = true then
      (at? p_l i2).bind fun x1 =>
        (journal_text x1).bind fun r2 =>
        (journal_mark i1 r2).bind fun r3 =>
        (catO r2 [32, 59, 32]).bind fun s1 =>
        (itoa r3).bind fun r4 =>
        (catO s1 r4).bind fun s2 =>
        (catO s2 [10]).bind fun s3 =>
        (appO 1 l1 s3).bind fun _ =>
        if (decide (((l1 ++ s3).length : Int) > 262144)) = true then
        some ([], 17)
      else
        journal_Log_loop1 p_l k1 m1 r3 (IntKind.wrap .i64 (i2 + 1)) (l1 ++ s3)
    else
      k1 l1
def journal_Log (p_l : (List Entry)) : Option ((List UInt8) × Int) :=
  (journal_Run p_l).bind fun r1 =>
  if (r1.2.2 != 0) = true then
  some ([], r1.2.2)
  else
  joinK (fun (l3 : (List UInt8)) =>
      some (l3, 0)) fun k1 =>
    journal_Log_loop1 p_l k1 (Int.toNat ((p_l.length : Int) - 0) + 1) 0 0 ([] : List UInt8)

def law58_Four  : Option (List Entry) :=
  some ([(Entry.mk 0 [65] 100 0), (Entry.mk 1 [65] 3 20), (Entry.mk 2 [65] 0 0), (Entry.mk 3 [65] 0 0)] : List Entry)

def ref12_Digits_loop1 (k1 : ((List UInt8) → Option (List UInt8))) : Nat → Int → (List UInt8) → Option (List UInt8)
  | 0, _, _ => none
  | m1 + 1, i1, s2 => if (decide (i1 > 0)) = true then
      (cut [48, 49, 50, 51, 52, 53, 54, 55, 56, 57] (Int.tmod i1 10) (IntKind.wrap .i64 ((Int.tmod i1 10) + 1))).bind fun s3 =>
        (catO s3 s2).bind fun s4 =>
        ref12_Digits_loop1 k1 m1 (IntKind.wrap .i64 (Int.tdiv i1 10)) s4
    else
      k1 s2
def ref12_Digits (p_n : Int) : Option (List UInt8) :=
  (cut [48, 49, 50, 51, 52, 53, 54, 55, 56, 57] (Int.tmod p_n 10) (IntKind.wrap .i64 ((Int.tmod p_n 10) + 1))).bind fun s1 =>
  joinK (fun (s5 : (List UInt8)) =>
    some s5) fun k1 =>
  ref12_Digits_loop1 k1 (p_n.toNat + 2) (IntKind.wrap .i64 (Int.tdiv p_n 10)) s1

def ref58_Mark_loop1 (p_s : (List UInt8)) (k2 : (Int → Option Int)) : Nat → Int → Int → Option Int
  | 0, _, _ => none
  | m1 + 1, i2, i3 => if (decide (i3 < (p_s.length : Int))) = true then
      (byteAt p_s i3).bind fun b1 =>
        ref58_Mark_loop1 p_s k2 m1 (Int.tmod (IntKind.wrap .i64 ((IntKind.wrap .i64 ((IntKind.wrap .i64 (31 * i2)) + (IntKind.wrap .i64 (b1.toNat : Int)))) + 7)) 65521) (IntKind.wrap .i64 (i3 + 1))
    else
      k2 i2
def ref58_Mark (p_before : Int) (p_s : (List UInt8)) : Option Int :=
  joinK (fun (i1 : Int) =>
    joinK (fun (i4 : Int) =>
        some i4) fun k2 =>
      ref58_Mark_loop1 p_s k2 (Int.toNat ((p_s.length : Int) - 0) + 1) i1 0) fun k1 =>
  if (decide ((Int.tmod p_before 65521) < 0)) = true then
  k1 (IntKind.wrap .i64 ((Int.tmod p_before 65521) + 65521))
  else
  k1 (Int.tmod p_before 65521)

def slices_Equal_journal_Itemjournal_Item_loop1 (p_s1 : (List Item)) (p_s2 : (List Item)) (k1 : (Option Bool)) : Nat → Int → Option Bool
  | 0, _ => none
  | m1 + 1, i1 => if (decide (i1 < (p_s1.length : Int))) = true then
      (at? p_s1 i1).bind fun x1 =>
        (at? p_s2 i1).bind fun x2 =>
        if (!(x1 == x2)) = true then
        some false
      else
        slices_Equal_journal_Itemjournal_Item_loop1 p_s1 p_s2 k1 m1 (IntKind.wrap .i64 (i1 + 1))
    else
      k1
def slices_Equal_journal_Itemjournal_Item (p_s1 : (List Item)) (p_s2 : (List Item)) : Option Bool :=
  if ((p_s1.length : Int) != (p_s2.length : Int)) = true then
  some false
  else
  joinK (some true) fun k1 =>
    slices_Equal_journal_Itemjournal_Item_loop1 p_s1 p_s2 k1 (Int.toNat ((p_s1.length : Int) - 0) + 1) 0

def law58_awake  : Option Bool :=
  (law58_Four).bind fun r1 =>
  (journal_Run r1).bind fun r2 =>
  (journal_Left r2.1 [65] 20).bind fun r3 =>
  (journal_Due r2.1).bind fun r4 =>
  (law58_Four).bind fun r5 =>
  (part? r5 0 3).bind fun l1 =>
  (journal_Run l1).bind fun r6 =>
  (journal_Do r6.1 (Entry.mk 1 [65] 1 20)).bind fun r7 =>
  (journal_Do r2.1 (Entry.mk 3 [65] 0 0)).bind fun r8 =>
  (journal_Do r2.1 (Entry.mk 0 [65] 5 0)).bind fun r9 =>
  (law58_Four).bind fun r10 =>
  (part? r10 0 1).bind fun l2 =>
  (journal_Log l2).bind fun r11 =>
  (if ((((((((IntKind.wrap .i64 ((IntKind.wrap .i64 ((IntKind.wrap .i64 ((IntKind.wrap .i64 (r2.2.2 + r3.2)) + r4.2)) + r6.2.2)) + r11.2)) != 0) || (r7.2 != 14)) || (r8.2 != 14)) || (r9.2 != 7)) || (r3.1 != 2)) || ((r4.1.length : Int) != 0)) || (r2.1.cycles != 3)) = true then some true else (ref58_Mark 0 [112, 97, 114, 116, 32, 65, 32, 49, 48, 48]).bind fun r12 =>
  (ref12_Digits r12).bind fun r13 =>
  (catO [112, 97, 114, 116, 32, 65, 32, 49, 48, 48, 32, 59, 32] r13).bind fun s1 =>
  (catO s1 [10]).bind fun s2 =>
  some (!(r11.1 == s2))).bind fun c1 =>
  if c1 = true then
  some false
  else
  (slices_Equal_journal_Itemjournal_Item r2.1.items ([(Item.mk [65] 100 60 1 false 0 3)] : List Item)).bind fun r14 =>
    (if r14 = true then (ref58_Mark 0 [97]).bind fun r15 =>
    some (r15 == 104) else some false).bind fun c2 =>
    (if c2 = true then (ref58_Mark 0 [97, 98]).bind fun r16 =>
    some (r16 == 3329) else some false).bind fun c3 =>
    some c3

def ref58_in (p_n : Int) (p_low : Int) (p_high : Int) : Option Bool :=
  some ((decide (p_n ≥ p_low)) && (decide (p_n ≤ p_high)))

def ref12_Letter (p_b : Int) : Option Bool :=
  some (((decide (p_b ≥ 97)) && (decide (p_b ≤ 122))) || ((decide (p_b ≥ 65)) && (decide (p_b ≤ 90))))

def ref12_Digit (p_b : Int) : Option Bool :=
  some ((decide (p_b ≥ 48)) && (decide (p_b ≤ 57)))

def ref12_inner (p_b : Int) : Option Bool :=
  (ref12_Letter p_b).bind fun r1 =>
  (if r1 = true then some true else (ref12_Digit p_b).bind fun r2 =>
  some r2).bind fun c1 =>
  some (c1 || (p_b == 95))

def ref12_Word_loop1 (p_s : (List UInt8)) (k1 : (Option Int)) : Nat → Int → Option Int
  | 0, _ => none
  | m1 + 1, i1 => if (decide (i1 < (p_s.length : Int))) = true then
      (byteAt p_s i1).bind fun b2 =>
        (ref12_inner (b2.toNat : Int)).bind fun r2 =>
        if (!r2) = true then
        some 3
      else
        ref12_Word_loop1 p_s k1 m1 (IntKind.wrap .i64 (i1 + 1))
    else
      k1
def ref12_Word (p_s : (List UInt8)) : Option Int :=
  (if ((p_s.length : Int) == 0) = true then some true else (byteAt p_s 0).bind fun b1 =>
  (ref12_Letter (b1.toNat : Int)).bind fun r1 =>
  some (!r1)).bind fun c1 =>
  if c1 = true then
  some 3
  else
  joinK (if (decide ((p_s.length : Int) > 24)) = true then
    some 17
  else
    some 0) fun k1 =>
    ref12_Word_loop1 p_s k1 (Int.toNat ((p_s.length : Int) - 0) + 1) 0

def ref58_item (p_x : Item) (p_cycles : Int) : Option Int :=
  (ref58_in p_x.life 1 1048576).bind fun r1 =>
  (if (!r1) = true then some true else (ref58_in p_x.used 0 1048576).bind fun r2 =>
  some (!r2)).bind fun c1 =>
  (if c1 = true then some true else (ref58_in p_x.faults 0 4096).bind fun r3 =>
  some (!r3)).bind fun c2 =>
  if c2 = true then
  some 2
  else
  (ref58_in p_x.since 0 p_cycles).bind fun r4 =>
    (if (!r4) = true then some true else (ref58_in p_x.cycles 0 p_cycles).bind fun r5 =>
    some (!r5)).bind fun c3 =>
    if (c3 || (decide ((IntKind.wrap .i64 (p_x.since + p_x.cycles)) > p_cycles))) = true then
    some 2
  else
    if (p_x.faulty && (p_x.faults == 0)) = true then
      some 14
    else
      some 0

def ref58_Check_loop1 (p_m : Machine) (k1 : (Option Int)) : Nat → Int → Option Int
  | 0, _ => none
  | m1 + 1, i1 => if (decide (i1 < (p_m.items.length : Int))) = true then
      (at? p_m.items i1).bind fun x1 =>
        (ref12_Word x1.name).bind fun r2 =>
        if (r2 != 0) = true then
        some r2
      else
        (if (decide (i1 > 0)) = true then (at? p_m.items i1).bind fun x2 =>
          (at? p_m.items (IntKind.wrap .i64 (i1 - 1))).bind fun x3 =>
          some (Op.bytesLess x2.name x3.name || x2.name == x3.name) else some false).bind fun c1 =>
          if c1 = true then
          some 9
        else
          (at? p_m.items i1).bind fun x4 =>
            (ref58_item x4 p_m.cycles).bind fun r3 =>
            if (r3 != 0) = true then
            some r3
          else
            ref58_Check_loop1 p_m k1 m1 (IntKind.wrap .i64 (i1 + 1))
    else
      k1
def ref58_Check (p_m : Machine) : Option Int :=
  (ref58_in p_m.cycles 0 1048576).bind fun r1 =>
  if (!r1) = true then
  some 2
  else
  if (decide ((p_m.items.length : Int) > 256)) = true then
    some 5
  else
    joinK (some 0) fun k1 =>
      ref58_Check_loop1 p_m k1 (Int.toNat ((p_m.items.length : Int) - 0) + 1) 0

def ref58_counted (p_kind : Int) : Option Bool :=
  some (((p_kind == 0) || (p_kind == 1)) || (p_kind == 4))

def ref58_Right (p_x : Entry) : Option Int :=
  (ref58_in p_x.kind 0 5).bind fun r1 =>
  if (!r1) = true then
  some 1
  else
  (ref12_Word p_x.name).bind fun r2 =>
    if (r2 != 0) = true then
    some r2
  else
    (ref58_counted p_x.kind).bind fun r3 =>
      (if r3 = true then (ref58_in p_x.count 1 1048576).bind fun r4 =>
      some (!r4) else some false).bind fun c1 =>
      (if c1 = true then some true else (ref58_counted p_x.kind).bind fun r5 =>
      some ((!r5) && (p_x.count != 0))).bind fun c2 =>
      if c2 = true then
      some 2
    else
      (if (p_x.kind == 1) = true then (ref58_in p_x.strokes 0 1048576).bind fun r6 =>
        some (!r6) else some false).bind fun c3 =>
        if (c3 || ((p_x.kind != 1) && (p_x.strokes != 0))) = true then
        some 2
      else
        some 0

def ref58_Place_loop1 (p_m : Machine) (p_name : (List UInt8)) (k1 : (Option Int)) : Nat → Int → Option Int
  | 0, _ => none
  | m1 + 1, i1 => if (decide (i1 < (p_m.items.length : Int))) = true then
      (at? p_m.items i1).bind fun x1 =>
        if (x1.name == p_name) = true then
        some i1
      else
        ref58_Place_loop1 p_m p_name k1 m1 (IntKind.wrap .i64 (i1 + 1))
    else
      k1
def ref58_Place (p_m : Machine) (p_name : (List UInt8)) : Option Int :=
  joinK (some (-1)) fun k1 =>
  ref58_Place_loop1 p_m p_name k1 (Int.toNat ((p_m.items.length : Int) - 0) + 1) 0

def ref58_added_loop1 (p_m : Machine) (p_x : Entry) (k1 : (Bool → (List Item) → Option (Machine × Int))) : Nat → Bool → Int → (List Item) → Option (Machine × Int)
  | 0, _, _, _ => none
  | m1 + 1, c1, i1, l1 => if (decide (i1 < (p_m.items.length : Int))) = true then
      joinK (fun (c3 : Bool) (l3 : (List Item)) =>
          (at? p_m.items i1).bind fun x2 =>
            (appO 64 l3 ([x2] : List Item)).bind fun _ =>
            ref58_added_loop1 p_m p_x k1 m1 c3 (IntKind.wrap .i64 (i1 + 1)) (l3 ++ ([x2] : List Item))) fun k2 =>
        (if (!c1) = true then (at? p_m.items i1).bind fun x1 =>
        some (!(Op.bytesLess x1.name p_x.name || x1.name == p_x.name)) else some false).bind fun c2 =>
        if c2 = true then
        (appO 64 l1 ([(Item.mk p_x.name p_x.count 0 0 false p_m.cycles 0)] : List Item)).bind fun _ =>
          k2 true (l1 ++ ([(Item.mk p_x.name p_x.count 0 0 false p_m.cycles 0)] : List Item))
      else
        k2 c1 l1
    else
      k1 c1 l1
def ref58_added (p_m : Machine) (p_x : Entry) : Option (Machine × Int) :=
  (ref58_Place p_m p_x.name).bind fun r1 =>
  if (decide (r1 ≥ 0)) = true then
  some ((Machine.mk [] 0), 7)
  else
  if ((p_m.items.length : Int) == 256) = true then
    some ((Machine.mk [] 0), 5)
  else
    joinK (fun (c4 : Bool) (l6 : (List Item)) =>
        joinK (fun (l8 : (List Item)) =>
            some ((Machine.mk l8 p_m.cycles), 0)) fun k3 =>
          if (!c4) = true then
          (appO 64 l6 ([(Item.mk p_x.name p_x.count 0 0 false p_m.cycles 0)] : List Item)).bind fun _ =>
            k3 (l6 ++ ([(Item.mk p_x.name p_x.count 0 0 false p_m.cycles 0)] : List Item))
        else
          k3 l6) fun k1 =>
      ref58_added_loop1 p_m p_x k1 (Int.toNat ((p_m.items.length : Int) - 0) + 1) false 0 ([] : List Item)

def ref58_Done (p_m : Machine) (p_x : Entry) : Option (Machine × Int) :=
  if (p_x.kind == 0) = true then
  (ref58_added p_m p_x).bind fun r1 =>
    some (r1.1, r1.2)
  else
  (ref58_Place p_m p_x.name).bind fun r2 =>
    if (decide (r2 < 0)) = true then
    some ((Machine.mk [] 0), 6)
  else
    joinK (fun (l4 : (List Item)) =>
        (at? p_m.items r2).bind fun x1 =>
          joinK (fun (i1 : Int) (s1 : (List UInt8)) (i2 : Int) (i3 : Int) (i4 : Int) (c1 : Bool) (i5 : Int) (i6 : Int) =>
            (at? l4 r2).bind fun x2 =>
              some ((Machine.mk (List.set l4 (Int.toNat r2) (Item.mk s1 i2 i3 i4 c1 i5 i6)) i1), 0)) fun k2 =>
          if (p_x.kind == 1) = true then
          if x1.faulty = true then
            some ((Machine.mk [] 0), 14)
          else
            if ((decide ((IntKind.wrap .i64 (p_m.cycles + p_x.count)) > 1048576)) || (decide ((IntKind.wrap .i64 (x1.used + (IntKind.wrap .i64 (p_x.count * p_x.strokes)))) > 1048576))) = true then
              some ((Machine.mk [] 0), 11)
            else
              k2 (IntKind.wrap .i64 (p_m.cycles + p_x.count)) x1.name x1.life (IntKind.wrap .i64 (x1.used + (IntKind.wrap .i64 (p_x.count * p_x.strokes)))) x1.faults x1.faulty x1.since (IntKind.wrap .i64 (x1.cycles + p_x.count))
        else
          if (p_x.kind == 2) = true then
            if x1.faulty = true then
              some ((Machine.mk [] 0), 14)
            else
              if (x1.faults == 4096) = true then
                some ((Machine.mk [] 0), 5)
              else
                k2 p_m.cycles x1.name x1.life x1.used (IntKind.wrap .i64 (x1.faults + 1)) true x1.since x1.cycles
          else
            if (p_x.kind == 3) = true then
              if (!x1.faulty) = true then
                some ((Machine.mk [] 0), 14)
              else
                k2 p_m.cycles x1.name x1.life x1.used x1.faults false x1.since x1.cycles
            else
              if (p_x.kind == 4) = true then
                k2 p_m.cycles p_x.name p_x.count 0 0 false p_m.cycles 0
              else
                if (p_x.kind == 5) = true then
                  (part? p_m.items 0 r2).bind fun l5 =>
                    (part? p_m.items (IntKind.wrap .i64 (r2 + 1)) (p_m.items.length : Int)).bind fun l6 =>
                    (appO 64 ([] : List Item) l5).bind fun _ =>
                    (appO 64 (([] : List Item) ++ l5) l6).bind fun _ =>
                    some ((Machine.mk ((([] : List Item) ++ l5) ++ l6) p_m.cycles), 0)
                else
                  k2 p_m.cycles x1.name x1.life x1.used x1.faults x1.faulty x1.since x1.cycles) fun k1 =>
      (appO 64 ([] : List Item) p_m.items).bind fun _ =>
      k1 (([] : List Item) ++ p_m.items)

def ref58_Do (p_m : Machine) (p_x : Entry) : Option (Machine × Int) :=
  (ref58_Check p_m).bind fun r1 =>
  if (r1 != 0) = true then
  some ((Machine.mk [] 0), r1)
  else
  (ref58_Right p_x).bind fun r2 =>
    if (r2 != 0) = true then
    some ((Machine.mk [] 0), r2)
  else
    (ref58_Done p_m p_x).bind fun r3 =>
      some (r3.1, r3.2)

def ref58_Same_loop1 (p_a : Machine) (p_b : Machine) (k1 : (Option Bool)) : Nat → Int → Option Bool
  | 0, _ => none
  | m1 + 1, i1 => if (decide (i1 < (p_a.items.length : Int))) = true then
      (at? p_a.items i1).bind fun x1 =>
        (at? p_b.items i1).bind fun x2 =>
        if (!(x1 == x2)) = true then
        some false
      else
        ref58_Same_loop1 p_a p_b k1 m1 (IntKind.wrap .i64 (i1 + 1))
    else
      k1
def ref58_Same (p_a : Machine) (p_b : Machine) : Option Bool :=
  if ((p_a.cycles != p_b.cycles) || ((p_a.items.length : Int) != (p_b.items.length : Int))) = true then
  some false
  else
  joinK (some true) fun k1 =>
    ref58_Same_loop1 p_a p_b k1 (Int.toNat ((p_a.items.length : Int) - 0) + 1) 0

def law58_JournalDoes (p_m : Machine) (p_x : Entry) : Option Bool :=
  (law58_few p_m p_x.name).bind fun r1 =>
  if (!r1) = true then
  (law58_awake).bind fun r2 =>
    some r2
  else
  (journal_Do p_m p_x).bind fun r3 =>
    joinK (fun (i1 : Int) (l1 : (List Item)) (i2 : Int) =>
      (law58_awake).bind fun r9 =>
        if r9 = true then
        (journal_Check p_m).bind fun r10 =>
          (law58_own p_m).bind fun r11 =>
          (ref58_Check r11).bind fun r12 =>
          if (r10 == r12) = true then
          (journal_Right p_x).bind fun r13 =>
            (ref58_Right p_x).bind fun r14 =>
            if (r13 == r14) = true then
            (law58_own r3.1).bind fun r15 =>
              (ref58_Same r15 (Machine.mk l1 i2)).bind fun r16 =>
              if r16 = true then
              some (r3.2 == i1)
            else
              some false
          else
            some false
        else
          some false
      else
        some false) fun k1 =>
    (law58_own p_m).bind fun r4 =>
    (ref58_Do r4 p_x).bind fun r5 =>
    k1 r5.2 r5.1.items r5.1.cycles

def ref58_Due_loop1 (p_m : Machine) (k1 : ((List (List UInt8)) → Option ((List (List UInt8)) × Int))) : Nat → Int → (List (List UInt8)) → Option ((List (List UInt8)) × Int)
  | 0, _, _ => none
  | m1 + 1, i1, l1 => if (decide (i1 < (p_m.items.length : Int))) = true then
      joinK (fun (l3 : (List (List UInt8))) =>
          ref58_Due_loop1 p_m k1 m1 (IntKind.wrap .i64 (i1 + 1)) l3) fun k2 =>
        (at? p_m.items i1).bind fun x1 =>
        if (x1.faulty || (decide (x1.used ≥ x1.life))) = true then
        (appO 16 l1 ([x1.name] : List (List UInt8))).bind fun _ =>
          k2 (l1 ++ ([x1.name] : List (List UInt8)))
      else
        k2 l1
    else
      k1 l1
def ref58_Due (p_m : Machine) : Option ((List (List UInt8)) × Int) :=
  (ref58_Check p_m).bind fun r1 =>
  if (r1 != 0) = true then
  some ([], r1)
  else
  joinK (fun (l4 : (List (List UInt8))) =>
      some (l4, 0)) fun k1 =>
    ref58_Due_loop1 p_m k1 (Int.toNat ((p_m.items.length : Int) - 0) + 1) 0 ([] : List (List UInt8))

def ref58_Left (p_m : Machine) (p_name : (List UInt8)) (p_strokes : Int) : Option (Int × Int) :=
  (ref58_Check p_m).bind fun r1 =>
  if (r1 != 0) = true then
  some (0, r1)
  else
  (ref58_Place p_m p_name).bind fun r2 =>
    if (decide (r2 < 0)) = true then
    some (0, 6)
  else
    (ref58_in p_strokes 1 1048576).bind fun r3 =>
      if (!r3) = true then
      some (0, 2)
    else
      (at? p_m.items r2).bind fun x1 =>
        if (decide (x1.used ≥ x1.life)) = true then
        some (0, 0)
      else
        (guardO (p_strokes != 0)).bind fun _ =>
          some ((IntKind.wrap .i64 (Int.tdiv (IntKind.wrap .i64 ((IntKind.wrap .i64 ((IntKind.wrap .i64 (x1.life - x1.used)) + p_strokes)) - 1)) p_strokes)), 0)

def slices_Equal_stringstring_loop1 (p_s1 : (List (List UInt8))) (p_s2 : (List (List UInt8))) (k1 : (Option Bool)) : Nat → Int → Option Bool
  | 0, _ => none
  | m1 + 1, i1 => if (decide (i1 < (p_s1.length : Int))) = true then
      (at? p_s1 i1).bind fun x1 =>
        (at? p_s2 i1).bind fun x2 =>
        if (!(x1 == x2)) = true then
        some false
      else
        slices_Equal_stringstring_loop1 p_s1 p_s2 k1 m1 (IntKind.wrap .i64 (i1 + 1))
    else
      k1
def slices_Equal_stringstring (p_s1 : (List (List UInt8))) (p_s2 : (List (List UInt8))) : Option Bool :=
  if ((p_s1.length : Int) != (p_s2.length : Int)) = true then
  some false
  else
  joinK (some true) fun k1 =>
    slices_Equal_stringstring_loop1 p_s1 p_s2 k1 (Int.toNat ((p_s1.length : Int) - 0) + 1) 0

def law58_JournalAsks (p_m : Machine) (p_name : (List UInt8)) (p_strokes : Int) : Option Bool :=
  (law58_few p_m p_name).bind fun r1 =>
  if (!r1) = true then
  (law58_awake).bind fun r2 =>
    some r2
  else
  (journal_Due p_m).bind fun r3 =>
    (law58_own p_m).bind fun r4 =>
    (ref58_Due r4).bind fun r5 =>
    (journal_Left p_m p_name p_strokes).bind fun r6 =>
    (law58_own p_m).bind fun r7 =>
    (ref58_Left r7 p_name p_strokes).bind fun r8 =>
    (law58_awake).bind fun r9 =>
    (if r9 = true then (slices_Equal_stringstring r3.1 r5.1).bind fun r10 =>
    some r10 else some false).bind fun c1 =>
    some (((c1 && (r3.2 == r5.2)) && (r6.1 == r8.1)) && (r6.2 == r8.2))

def ref58_FewEntries_loop1 (p_l : (List Entry)) (k1 : (Option Bool)) : Nat → Int → Option Bool
  | 0, _ => none
  | m1 + 1, i1 => if (decide (i1 < (p_l.length : Int))) = true then
      (at? p_l i1).bind fun x1 =>
        if (decide ((x1.name.length : Int) > 60)) = true then
        some false
      else
        ref58_FewEntries_loop1 p_l k1 m1 (IntKind.wrap .i64 (i1 + 1))
    else
      k1
def ref58_FewEntries (p_l : (List Entry)) : Option Bool :=
  if (((decide ((p_l.length : Int) > 20)) && (decide ((p_l.length : Int) ≤ 4096))) || (decide ((p_l.length : Int) > 8192))) = true then
  some false
  else
  joinK (some true) fun k1 =>
    ref58_FewEntries_loop1 p_l k1 (Int.toNat ((p_l.length : Int) - 0) + 1) 0

def law58_entries_loop1 (p_l : (List Entry)) (k1 : ((List Entry) → Option (List Entry))) : Nat → Int → (List Entry) → Option (List Entry)
  | 0, _, _ => none
  | m1 + 1, i1, l1 => if (decide (i1 < (p_l.length : Int))) = true then
      (at? p_l i1).bind fun x1 =>
        (appO 40 l1 ([x1] : List Entry)).bind fun _ =>
        law58_entries_loop1 p_l k1 m1 (IntKind.wrap .i64 (i1 + 1)) (l1 ++ ([x1] : List Entry))
    else
      k1 l1
def law58_entries (p_l : (List Entry)) : Option (List Entry) :=
  joinK (fun (l3 : (List Entry)) =>
    some l3) fun k1 =>
  law58_entries_loop1 p_l k1 (Int.toNat ((p_l.length : Int) - 0) + 1) 0 ([] : List Entry)

def ref58_Run_loop1 (p_l : (List Entry)) (k1 : ((List Item) → Int → Option (Machine × Int × Int))) : Nat → Int → (List Item) → Int → Option (Machine × Int × Int)
  | 0, _, _, _ => none
  | m1 + 1, i1, l1, i2 => if (decide (i1 < (p_l.length : Int))) = true then
      joinK (fun (i3 : Int) (l2 : (List Item)) (i4 : Int) =>
          if (i3 != 0) = true then
            some ((Machine.mk [] 0), i1, i3)
          else
            ref58_Run_loop1 p_l k1 m1 (IntKind.wrap .i64 (i1 + 1)) l2 i4) fun k2 =>
        (at? p_l i1).bind fun x1 =>
        (ref58_Do (Machine.mk l1 i2) x1).bind fun r1 =>
        k2 r1.2 r1.1.items r1.1.cycles
    else
      k1 l1 i2
def ref58_Run (p_l : (List Entry)) : Option (Machine × Int × Int) :=
  if (decide ((p_l.length : Int) > 4096)) = true then
  some ((Machine.mk [] 0), 0, 5)
  else
  joinK (fun (l3 : (List Item)) (i5 : Int) =>
      some ((Machine.mk l3 i5), 0, 0)) fun k1 =>
    ref58_Run_loop1 p_l k1 (Int.toNat ((p_l.length : Int) - 0) + 1) 0 [] 0

def ref58_Line (p_before : Int) (p_s : (List UInt8)) : Option ((List UInt8) × Int) :=
  (ref58_Mark p_before p_s).bind fun r1 =>
  (catO p_s [32, 59, 32]).bind fun s1 =>
  (ref12_Digits r1).bind fun r2 =>
  (catO s1 r2).bind fun s2 =>
  (catO s2 [10]).bind fun s3 =>
  some (s3, r1)

def ref58_words  : Option (List (List UInt8)) :=
  some ([[112, 97, 114, 116], [99, 121, 99, 108, 101, 115], [102, 97, 117, 108, 116], [114, 101, 112, 97, 105, 114], [114, 101, 112, 108, 97, 99, 101], [114, 101, 109, 111, 118, 101]] : List (List UInt8))

def ref58_Written (p_x : Entry) : Option (List UInt8) :=
  (ref58_words).bind fun r1 =>
  (at? r1 p_x.kind).bind fun x1 =>
  (catO x1 [32]).bind fun s1 =>
  (catO s1 p_x.name).bind fun s2 =>
  joinK (fun (s5 : (List UInt8)) =>
    joinK (fun (s8 : (List UInt8)) =>
        some s8) fun k2 =>
      if (p_x.kind == 1) = true then
      (ref12_Digits p_x.strokes).bind fun r4 =>
        (catO [32] r4).bind fun s6 =>
        (catO s5 s6).bind fun s7 =>
        k2 s7
    else
      k2 s5) fun k1 =>
  (ref58_counted p_x.kind).bind fun r2 =>
  if r2 = true then
  (ref12_Digits p_x.count).bind fun r3 =>
    (catO [32] r3).bind fun s3 =>
    (catO s2 s3).bind fun s4 =>
    k1 s4
  else
  k1 s2

def ref58_Lined_loop1 (p_l : (List Entry)) (k1 : ((List UInt8) → Option (List UInt8))) : Nat → (List UInt8) → Int → Int → Option (List UInt8)
  | 0, _, _, _ => none
  | m1 + 1, s1, i1, i2 => if (decide (i2 < (p_l.length : Int))) = true then
      (at? p_l i2).bind fun x1 =>
        (ref58_Written x1).bind fun r1 =>
        (ref58_Line i1 r1).bind fun r2 =>
        (catO s1 r2.1).bind fun s2 =>
        ref58_Lined_loop1 p_l k1 m1 s2 r2.2 (IntKind.wrap .i64 (i2 + 1))
    else
      k1 s1
def ref58_Lined (p_l : (List Entry)) : Option (List UInt8) :=
  joinK (fun (s3 : (List UInt8)) =>
    some s3) fun k1 =>
  ref58_Lined_loop1 p_l k1 (Int.toNat ((p_l.length : Int) - 0) + 1) [] 0 0

def ref58_Log (p_l : (List Entry)) : Option ((List UInt8) × Int) :=
  (ref58_Run p_l).bind fun r1 =>
  if (r1.2.2 != 0) = true then
  some ([], r1.2.2)
  else
  (ref58_Lined p_l).bind fun r2 =>
    if (decide ((r2.length : Int) > 262144)) = true then
    some ([], 17)
  else
    some (r2, 0)

def law58_JournalRuns (p_l : (List Entry)) : Option Bool :=
  (law58_entries p_l).bind fun r1 =>
  (ref58_FewEntries r1).bind fun r2 =>
  if (!r2) = true then
  (law58_awake).bind fun r3 =>
    some r3
  else
  (journal_Run p_l).bind fun r4 =>
    (law58_entries p_l).bind fun r5 =>
    (ref58_Run r5).bind fun r6 =>
    (journal_Log p_l).bind fun r7 =>
    (law58_entries p_l).bind fun r8 =>
    (ref58_Log r8).bind fun r9 =>
    (law58_awake).bind fun r10 =>
    if r10 = true then
    (law58_own r4.1).bind fun r11 =>
      (ref58_Same r11 r6.1).bind fun r12 =>
      if r12 = true then
      if (r4.2.1 == r6.2.1) = true then
        if (r4.2.2 == r6.2.2) = true then
          if (r7.1 == r9.1) = true then
            some (r7.2 == r9.2)
          else
            some false
        else
          some false
      else
        some false
    else
      some false
  else
    some false

def law58_right (p_l : (List Entry)) : Option Bool :=
  (if (decide ((p_l.length : Int) > 20)) = true then some true else (law58_entries p_l).bind fun r1 =>
  (ref58_FewEntries r1).bind fun r2 =>
  some (!r2)).bind fun c1 =>
  if c1 = true then
  some false
  else
  (law58_entries p_l).bind fun r3 =>
    (ref58_Run r3).bind fun r4 =>
    some (r4.2.2 == 0)

def law58_JournalSwaps (p_l : (List Entry)) (p_x : Entry) (p_y : Entry) : Option Bool :=
  (law58_right p_l).bind fun r1 =>
  if (((((!r1) || (decide ((p_x.name.length : Int) > 60))) || (decide ((p_y.name.length : Int) > 60))) || (p_x.name == p_y.name)) || (((p_y.kind != 2) && (p_y.kind != 3)) && (p_y.kind != 5))) = true then
  (law58_awake).bind fun r2 =>
    some r2
  else
  (journal_Run p_l).bind fun r3 =>
    if ((r3.2.2 != 0) || (decide ((r3.1.items.length : Int) > 20))) = true then
    some false
  else
    (journal_Do r3.1 p_x).bind fun r4 =>
      if (r4.2 != 0) = true then
      (law58_awake).bind fun r5 =>
        some r5
    else
      (journal_Do r4.1 p_y).bind fun r6 =>
        (journal_Do r3.1 p_y).bind fun r7 =>
        if ((r6.2 != 0) || (r7.2 != 0)) = true then
        (if (r6.2 == r7.2) = true then (law58_awake).bind fun r8 =>
          some r8 else some false).bind fun c1 =>
          some c1
      else
        (journal_Do r7.1 p_x).bind fun r9 =>
          if (r9.2 == 0) = true then
          (law58_own r6.1).bind fun r10 =>
            (law58_own r9.1).bind fun r11 =>
            (ref58_Same r10 r11).bind fun r12 =>
            if r12 = true then
            (law58_awake).bind fun r13 =>
              some r13
          else
            some false
        else
          some false

def slices_Index_stringstring_loop1 (p_s : (List (List UInt8))) (p_v : (List UInt8)) (k1 : (Option Int)) : Nat → Int → Option Int
  | 0, _ => none
  | m1 + 1, i1 => if (decide (i1 < (p_s.length : Int))) = true then
      (at? p_s i1).bind fun x1 =>
        if (p_v == x1) = true then
        some i1
      else
        slices_Index_stringstring_loop1 p_s p_v k1 m1 (IntKind.wrap .i64 (i1 + 1))
    else
      k1
def slices_Index_stringstring (p_s : (List (List UInt8))) (p_v : (List UInt8)) : Option Int :=
  joinK (some (-1)) fun k1 =>
  slices_Index_stringstring_loop1 p_s p_v k1 (Int.toNat ((p_s.length : Int) - 0) + 1) 0

def slices_Contains_stringstring (p_s : (List (List UInt8))) (p_v : (List UInt8)) : Option Bool :=
  (slices_Index_stringstring p_s p_v).bind fun r1 =>
  some (decide (r1 ≥ 0))

def law58_JournalAdds (p_l : (List Entry)) (p_x : Entry) (p_first : Int) : Option Bool :=
  (law58_right p_l).bind fun r1 =>
  (if (((!r1) || (decide ((p_x.name.length : Int) > 60))) || (p_x.kind != 1)) = true then some true else (ref58_Right p_x).bind fun r2 =>
  some (r2 != 0)).bind fun c1 =>
  if c1 = true then
  (law58_awake).bind fun r3 =>
    some r3
  else
  (journal_Run p_l).bind fun r4 =>
    (if (r4.2.2 != 0) = true then some true else (law58_own r4.1).bind fun r5 =>
    (ref58_Check r5).bind fun r6 =>
    some (r6 != 0)).bind fun c2 =>
    if c2 = true then
    some false
  else
    (journal_Do r4.1 p_x).bind fun r7 =>
      if (r7.2 != 0) = true then
      (if (((r7.2 == 6) || (r7.2 == 14)) || (r7.2 == 11)) = true then (law58_awake).bind fun r8 =>
        some r8 else some false).bind fun c3 =>
        some c3
    else
      joinK (if (p_x.strokes == 0) = true then
        (law58_awake).bind fun r14 =>
          some r14
      else
        (journal_Left r4.1 p_x.name p_x.strokes).bind fun r15 =>
          (journal_Due r7.1).bind fun r16 =>
          (if ((IntKind.wrap .i64 (r15.2 + r16.2)) == 0) = true then (slices_Contains_stringstring r16.1 p_x.name).bind fun r17 =>
          some (r17 == (decide (p_x.count ≥ r15.1))) else some false).bind fun c5 =>
          (if c5 = true then (law58_awake).bind fun r18 =>
          some r18 else some false).bind fun c6 =>
          some c6) fun k1 =>
        if (decide (p_x.count > 1)) = true then
        (guardO ((IntKind.wrap .i64 (p_x.count - 1)) != 0)).bind fun _ =>
          joinK ((journal_Do r4.1 (Entry.mk p_x.kind p_x.name (IntKind.wrap .i64 ((Int.tmod (IntKind.wrap .i64 p_first) (IntKind.wrap .i64 (p_x.count - 1))) + 1)) p_x.strokes)).bind fun r9 =>
          (journal_Do r9.1 (Entry.mk p_x.kind p_x.name (IntKind.wrap .i64 (p_x.count - (IntKind.wrap .i64 ((Int.tmod (IntKind.wrap .i64 p_first) (IntKind.wrap .i64 (p_x.count - 1))) + 1)))) p_x.strokes)).bind fun r10 =>
          joinK (fun (c4 : Bool) =>
            if c4 = true then
              some false
            else
              k1) fun k3 =>
          if ((IntKind.wrap .i64 (r9.2 + r10.2)) != 0) = true then
          k3 true
        else
          (law58_own r10.1).bind fun r11 =>
            (law58_own r7.1).bind fun r12 =>
            (ref58_Same r11 r12).bind fun r13 =>
            k3 (!r13)) fun k2 =>
          k2
      else
        k1

end Go.Proofs.YtpigfknmlmeihaaDoor.W
