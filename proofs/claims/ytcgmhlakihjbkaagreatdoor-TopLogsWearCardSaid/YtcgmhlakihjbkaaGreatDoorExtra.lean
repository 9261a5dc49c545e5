/- Plain functions of another seat's, for the laws that speak of them. No program in sight. -/
import Derived.Test.YtcgmhlakihjbkaaGreatDoorPlain
import Derived.Lib.Join
import Derived.Lib.SlTrimSet
import Derived.Lib.FieldsP
import Derived.Lib.LastIndexLaws
import Derived.Lib.SplitLaws
set_option linter.unusedVariables false
set_option maxRecDepth 100000
namespace Go.Proofs.YtcgmhlakihjbkaaGreatDoor.W
open Go Go.RowKit
def joinS (l : List (List UInt8)) (sep : List UInt8) : Option (List UInt8) := if l.length ≤ 140737488355328 ∧ (Lib.join l sep).length ≤ 140737488355328 then some (Lib.join l sep) else none
def trimS (s set : List UInt8) : Option (List UInt8) := if s.length < 4294967281 ∧ set.length < 4294967281 ∧ set.all (fun b => decide (b.toNat < 128)) = true then some (Lib.trimS s set) else none
def law58_own_loop1 (p_m : Machine) (k1 : ((List Item) → Option Machine)) : Nat → Int → (List Item) → Option Machine
  | 0, _, _ => none
  | m1 + 1, i1, l1 => if (decide (i1 < (p_m.items.length : Int))) = true then
      (at? p_m.items i1).bind fun x1 =>
        (appO 64 l1 ([x1] : List Item)).bind fun _ =>
        law58_own_loop1 p_m k1 m1 (IntKind.wrap .i64 (i1 + 1)) (l1 ++ ([x1] : List Item))
    else
      k1 l1
def law58_own (p_m : Machine) : Option Machine :=
  joinK (fun (l3 : (List Item)) =>
    some (Machine.mk l3 p_m.cycles)) fun k1 =>
  law58_own_loop1 p_m k1 (Int.toNat ((p_m.items.length : Int) - 0) + 1) 0 ([] : List Item)

def ref58_Few_loop1 (p_m : Machine) (k1 : (Option Bool)) : Nat → Int → Option Bool
  | 0, _ => none
  | m1 + 1, i1 => if (decide (i1 < (p_m.items.length : Int))) = true then
      (at? p_m.items i1).bind fun x1 =>
        if (decide ((x1.name.length : Int) > 60)) = true then
        some false
      else
        ref58_Few_loop1 p_m k1 m1 (IntKind.wrap .i64 (i1 + 1))
    else
      k1
def ref58_Few (p_m : Machine) : Option Bool :=
  if (((decide ((p_m.items.length : Int) > 10)) && (decide ((p_m.items.length : Int) < 256))) || (decide ((p_m.items.length : Int) > 512))) = true then
  some false
  else
  joinK (some true) fun k1 =>
    ref58_Few_loop1 p_m k1 (Int.toNat ((p_m.items.length : Int) - 0) + 1) 0

def law58_few (p_m : Machine) (p_name : (List UInt8)) : Option Bool :=
  (law58_own p_m).bind fun r1 =>
  (ref58_Few r1).bind fun r2 =>
  some (r2 && (decide ((p_name.length : Int) ≤ 60)))

def ref12_Digits_loop1 (k1 : ((List UInt8) → Option (List UInt8))) : Nat → Int → (List UInt8) → Option (List UInt8)
  | 0, _, _ => none
  | m1 + 1, i1, s2 => if (decide (i1 > 0)) = true then
      (cut [48, 49, 50, 51, 52, 53, 54, 55, 56, 57] (Int.tmod i1 10) (IntKind.wrap .i64 ((Int.tmod i1 10) + 1))).bind fun s3 =>
        (catO s3 s2).bind fun s4 =>
        ref12_Digits_loop1 k1 m1 (IntKind.wrap .i64 (Int.tdiv i1 10)) s4
    else
      k1 s2
def ref12_Digits (p_n : Int) : Option (List UInt8) :=
  (cut [48, 49, 50, 51, 52, 53, 54, 55, 56, 57] (Int.tmod p_n 10) (IntKind.wrap .i64 ((Int.tmod p_n 10) + 1))).bind fun s1 =>
  joinK (fun (s5 : (List UInt8)) =>
    some s5) fun k1 =>
  ref12_Digits_loop1 k1 (p_n.toNat + 2) (IntKind.wrap .i64 (Int.tdiv p_n 10)) s1

def ref58_Mark_loop1 (p_s : (List UInt8)) (k2 : (Int → Option Int)) : Nat → Int → Int → Option Int
  | 0, _, _ => none
  | m1 + 1, i2, i3 => if (decide (i3 < (p_s.length : Int))) = true then
      (byteAt p_s i3).bind fun b1 =>
        ref58_Mark_loop1 p_s k2 m1 (Int.tmod (IntKind.wrap .i64 ((IntKind.wrap .i64 ((IntKind.wrap .i64 (31 * i2)) + (IntKind.wrap .i64 (b1.toNat : Int)))) + 7)) 65521) (IntKind.wrap .i64 (i3 + 1))
    else
      k2 i2
def ref58_Mark (p_before : Int) (p_s : (List UInt8)) : Option Int :=
  joinK (fun (i1 : Int) =>
    joinK (fun (i4 : Int) =>
        some i4) fun k2 =>
      ref58_Mark_loop1 p_s k2 (Int.toNat ((p_s.length : Int) - 0) + 1) i1 0) fun k1 =>
  if (decide ((Int.tmod p_before 65521) < 0)) = true then
  k1 (IntKind.wrap .i64 ((Int.tmod p_before 65521) + 65521))
  else
  k1 (Int.tmod p_before 65521)

def slices_Equal_journal_Itemjournal_Item_loop1 (p_s1 : (List Item)) (p_s2 : (List Item)) (k1 : (Option Bool)) : Nat → Int → Option Bool
  | 0, _ => none
  | m1 + 1, i1 => if (decide (i1 < (p_s1.length : Int))) = true then
      (at? p_s1 i1).bind fun x1 =>
        (at? p_s2 i1).bind fun x2 =>
        if (!(x1 == x2)) = true then
        some false
      else
        slices_Equal_journal_Itemjournal_Item_loop1 p_s1 p_s2 k1 m1 (IntKind.wrap .i64 (i1 + 1))
    else
      k1
def slices_Equal_journal_Itemjournal_Item (p_s1 : (List Item)) (p_s2 : (List Item)) : Option Bool :=
  if ((p_s1.length : Int) != (p_s2.length : Int)) = true then
  some false
  else
  joinK (some true) fun k1 =>
    slices_Equal_journal_Itemjournal_Item_loop1 p_s1 p_s2 k1 (Int.toNat ((p_s1.length : Int) - 0) + 1) 0

def law58_awake  : Option Bool :=
  (law58_Four).bind fun r1 =>
  (journal_Run r1).bind fun r2 =>
  (journal_Left r2.1 [65] 20).bind fun r3 =>
  (journal_Due r2.1).bind fun r4 =>
  (law58_Four).bind fun r5 =>
  (part? r5 0 3).bind fun l1 =>
  (journal_Run l1).bind fun r6 =>
  (journal_Do r6.1 (Entry.mk 1 [65] 1 20)).bind fun r7 =>
  (journal_Do r2.1 (Entry.mk 3 [65] 0 0)).bind fun r8 =>
  (journal_Do r2.1 (Entry.mk 0 [65] 5 0)).bind fun r9 =>
  (law58_Four).bind fun r10 =>
  (part? r10 0 1).bind fun l2 =>
  (journal_Log l2).bind fun r11 =>
  (if ((((((((IntKind.wrap .i64 ((IntKind.wrap .i64 ((IntKind.wrap .i64 ((IntKind.wrap .i64 (r2.2.2 + r3.2)) + r4.2)) + r6.2.2)) + r11.2)) != 0) || (r7.2 != 14)) || (r8.2 != 14)) || (r9.2 != 7)) || (r3.1 != 2)) || ((r4.1.length : Int) != 0)) || (r2.1.cycles != 3)) = true then some true else (ref58_Mark 0 [112, 97, 114, 116, 32, 65, 32, 49, 48, 48]).bind fun r12 =>
  (ref12_Digits r12).bind fun r13 =>
  (catO [112, 97, 114, 116, 32, 65, 32, 49, 48, 48, 32, 59, 32] r13).bind fun s1 =>
  (catO s1 [10]).bind fun s2 =>
  some (!(r11.1 == s2))).bind fun c1 =>
  if c1 = true then
  some false
  else
  (slices_Equal_journal_Itemjournal_Item r2.1.items ([(Item.mk [65] 100 60 1 false 0 3)] : List Item)).bind fun r14 =>
    (if r14 = true then (ref58_Mark 0 [97]).bind fun r15 =>
    some (r15 == 104) else some false).bind fun c2 =>
    (if c2 = true then (ref58_Mark 0 [97, 98]).bind fun r16 =>
    some (r16 == 3329) else some false).bind fun c3 =>
    some c3

def ref58_in (p_n : Int) (p_low : Int) (p_high : Int) : Option Bool :=
  some ((decide (p_n ≥ p_low)) && (decide (p_n ≤ p_high)))

def ref12_Letter (p_b : Int) : Option Bool :=
  some (((decide (p_b ≥ 97)) && (decide (p_b ≤ 122))) || ((decide (p_b ≥ 65)) && (decide (p_b ≤ 90))))

def ref12_Digit (p_b : Int) : Option Bool :=
  some ((decide (p_b ≥ 48)) && (decide (p_b ≤ 57)))

def ref12_inner (p_b : Int) : Option Bool :=
  (ref12_Letter p_b).bind fun r1 =>
  (if r1 = true then some true else (ref12_Digit p_b).bind fun r2 =>
  some r2).bind fun c1 =>
  some (c1 || (p_b == 95))

def ref12_Word_loop1 (p_s : (List UInt8)) (k1 : (Option Int)) : Nat → Int → Option Int
  | 0, _ => none
  | m1 + 1, i1 => if (decide (i1 < (p_s.length : Int))) = true then
      (byteAt p_s i1).bind fun b2 =>
        (ref12_inner (b2.toNat : Int)).bind fun r2 =>
        if (!r2) = true then
        some 3
      else
        ref12_Word_loop1 p_s k1 m1 (IntKind.wrap .i64 (i1 + 1))
    else
      k1
def ref12_Word (p_s : (List UInt8)) : Option Int :=
  (if ((p_s.length : Int) == 0) = true then some true else (byteAt p_s 0).bind fun b1 =>
  (ref12_Letter (b1.toNat : Int)).bind fun r1 =>
  some (!r1)).bind fun c1 =>
  if c1 = true then
  some 3
  else
  joinK (if (decide ((p_s.length : Int) > 24)) = true then
    some 17
  else
    some 0) fun k1 =>
    ref12_Word_loop1 p_s k1 (Int.toNat ((p_s.length : Int) - 0) + 1) 0

def ref58_item (p_x : Item) (p_cycles : Int) : Option Int :=
  (ref58_in p_x.life 1 1048576).bind fun r1 =>
  (if (!r1) = true then some true else (ref58_in p_x.used 0 1048576).bind fun r2 =>
  some (!r2)).bind fun c1 =>
  (if c1 = true then some true else (ref58_in p_x.faults 0 4096).bind fun r3 =>
  some (!r3)).bind fun c2 =>
  if c2 = true then
  some 2
  else
  (ref58_in p_x.since 0 p_cycles).bind fun r4 =>
    (if (!r4) = true then some true else (ref58_in p_x.cycles 0 p_cycles).bind fun r5 =>
    some (!r5)).bind fun c3 =>
    if (c3 || (decide ((IntKind.wrap .i64 (p_x.since + p_x.cycles)) > p_cycles))) = true then
    some 2
  else
    if (p_x.faulty && (p_x.faults == 0)) = true then
      some 14
    else
      some 0

def ref58_Check_loop1 (p_m : Machine) (k1 : (Option Int)) : Nat → Int → Option Int
  | 0, _ => none
  | m1 + 1, i1 => if (decide (i1 < (p_m.items.length : Int))) = true then
      (at? p_m.items i1).bind fun x1 =>
        (ref12_Word x1.name).bind fun r2 =>
        if (r2 != 0) = true then
        some r2
      else
        (if (decide (i1 > 0)) = true then (at? p_m.items i1).bind fun x2 =>
          (at? p_m.items (IntKind.wrap .i64 (i1 - 1))).bind fun x3 =>
          some (Op.bytesLess x2.name x3.name || x2.name == x3.name) else some false).bind fun c1 =>
          if c1 = true then
          some 9
        else
          (at? p_m.items i1).bind fun x4 =>
            (ref58_item x4 p_m.cycles).bind fun r3 =>
            if (r3 != 0) = true then
            some r3
          else
            ref58_Check_loop1 p_m k1 m1 (IntKind.wrap .i64 (i1 + 1))
    else
      k1
def ref58_Check (p_m : Machine) : Option Int :=
  (ref58_in p_m.cycles 0 1048576).bind fun r1 =>
  if (!r1) = true then
  some 2
  else
  if (decide ((p_m.items.length : Int) > 256)) = true then
    some 5
  else
    joinK (some 0) fun k1 =>
      ref58_Check_loop1 p_m k1 (Int.toNat ((p_m.items.length : Int) - 0) + 1) 0

def ref58_counted (p_kind : Int) : Option Bool :=
  some (((p_kind == 0) || (p_kind == 1)) || (p_kind == 4))

def ref58_Right (p_x : Entry) : Option Int :=
  (ref58_in p_x.kind 0 5).bind fun r1 =>
  if (!r1) = true then
  some 1
  else
  (ref12_Word p_x.name).bind fun r2 =>
    if (r2 != 0) = true then
    some r2
  else
    (ref58_counted p_x.kind).bind fun r3 =>
      (if r3 = true then (ref58_in p_x.count 1 1048576).bind fun r4 =>
      some (!r4) else some false).bind fun c1 =>
      (if c1 = true then some true else (ref58_counted p_x.kind).bind fun r5 =>
      some ((!r5) && (p_x.count != 0))).bind fun c2 =>
      if c2 = true then
      some 2
    else
      (if (p_x.kind == 1) = true then (ref58_in p_x.strokes 0 1048576).bind fun r6 =>
        some (!r6) else some false).bind fun c3 =>
        if (c3 || ((p_x.kind != 1) && (p_x.strokes != 0))) = true then
        some 2
      else
        some 0

def ref58_Place_loop1 (p_m : Machine) (p_name : (List UInt8)) (k1 : (Option Int)) : Nat → Int → Option Int
  | 0, _ => none
  | m1 + 1, i1 => if (decide (i1 < (p_m.items.length : Int))) = true then
      (at? p_m.items i1).bind fun x1 =>
        if (x1.name == p_name) = true then
        some i1
      else
        ref58_Place_loop1 p_m p_name k1 m1 (IntKind.wrap .i64 (i1 + 1))
    else
      k1
def ref58_Place (p_m : Machine) (p_name : (List UInt8)) : Option Int :=
  joinK (some (-1)) fun k1 =>
  ref58_Place_loop1 p_m p_name k1 (Int.toNat ((p_m.items.length : Int) - 0) + 1) 0

def ref58_added_loop1 (p_m : Machine) (p_x : Entry) (k1 : (Bool → (List Item) → Option (Machine × Int))) : Nat → Bool → Int → (List Item) → Option (Machine × Int)
  | 0, _, _, _ => none
  | m1 + 1, c1, i1, l1 => if (decide (i1 < (p_m.items.length : Int))) = true then
      joinK (fun (c3 : Bool) (l3 : (List Item)) =>
          (at? p_m.items i1).bind fun x2 =>
            (appO 64 l3 ([x2] : List Item)).bind fun _ =>
            ref58_added_loop1 p_m p_x k1 m1 c3 (IntKind.wrap .i64 (i1 + 1)) (l3 ++ ([x2] : List Item))) fun k2 =>
        (if (!c1) = true then (at? p_m.items i1).bind fun x1 =>
        some (!(Op.bytesLess x1.name p_x.name || x1.name == p_x.name)) else some false).bind fun c2 =>
        if c2 = true then
        (appO 64 l1 ([(Item.mk p_x.name p_x.count 0 0 false p_m.cycles 0)] : List Item)).bind fun _ =>
          k2 true (l1 ++ ([(Item.mk p_x.name p_x.count 0 0 false p_m.cycles 0)] : List Item))
      else
        k2 c1 l1
    else
      k1 c1 l1
def ref58_added (p_m : Machine) (p_x : Entry) : Option (Machine × Int) :=
  (ref58_Place p_m p_x.name).bind fun r1 =>
  if (decide (r1 ≥ 0)) = true then
  some ((Machine.mk [] 0), 7)
  else
  if ((p_m.items.length : Int) == 256) = true then
    some ((Machine.mk [] 0), 5)
  else
    joinK (fun (c4 : Bool) (l6 : (List Item)) =>
        joinK (fun (l8 : (List Item)) =>
            some ((Machine.mk l8 p_m.cycles), 0)) fun k3 =>
          if (!c4) = true then
          (appO 64 l6 ([(Item.mk p_x.name p_x.count 0 0 false p_m.cycles 0)] : List Item)).bind fun _ =>
            k3 (l6 ++ ([(Item.mk p_x.name p_x.count 0 0 false p_m.cycles 0)] : List Item))
        else
          k3 l6) fun k1 =>
      ref58_added_loop1 p_m p_x k1 (Int.toNat ((p_m.items.length : Int) - 0) + 1) false 0 ([] : List Item)

def ref58_Done (p_m : Machine) (p_x : Entry) : Option (Machine × Int) :=
  if (p_x.kind == 0) = true then
  (ref58_added p_m p_x).bind fun r1 =>
    some (r1.1, r1.2)
  else
  (ref58_Place p_m p_x.name).bind fun r2 =>
    if (decide (r2 < 0)) = true then
    some ((Machine.mk [] 0), 6)
  else
    joinK (fun (l4 : (List Item)) =>
        (at? p_m.items r2).bind fun x1 =>
          joinK (fun (i1 : Int) (s1 : (List UInt8)) (i2 : Int) (i3 : Int) (i4 : Int) (c1 : Bool) (i5 : Int) (i6 : Int) =>
            (at? l4 r2).bind fun x2 =>
              some ((Machine.mk (List.set l4 (Int.toNat r2) (Item.mk s1 i2 i3 i4 c1 i5 i6)) i1), 0)) fun k2 =>
          if (p_x.kind == 1) = true then
          if x1.faulty = true then
            some ((Machine.mk [] 0), 14)
          else
            if ((decide ((IntKind.wrap .i64 (p_m.cycles + p_x.count)) > 1048576)) || (decide ((IntKind.wrap .i64 (x1.used + (IntKind.wrap .i64 (p_x.count * p_x.strokes)))) > 1048576))) = true then
              some ((Machine.mk [] 0), 11)
            else
              k2 (IntKind.wrap .i64 (p_m.cycles + p_x.count)) x1.name x1.life (IntKind.wrap .i64 (x1.used + (IntKind.wrap .i64 (p_x.count * p_x.strokes)))) x1.faults x1.faulty x1.since (IntKind.wrap .i64 (x1.cycles + p_x.count))
        else
          if (p_x.kind == 2) = true then
            if x1.faulty = true then
              some ((Machine.mk [] 0), 14)
            else
              if (x1.faults == 4096) = true then
                some ((Machine.mk [] 0), 5)
              else
                k2 p_m.cycles x1.name x1.life x1.used (IntKind.wrap .i64 (x1.faults + 1)) true x1.since x1.cycles
          else
            if (p_x.kind == 3) = true then
              if (!x1.faulty) = true then
                some ((Machine.mk [] 0), 14)
              else
                k2 p_m.cycles x1.name x1.life x1.used x1.faults false x1.since x1.cycles
            else
              if (p_x.kind == 4) = true then
                k2 p_m.cycles p_x.name p_x.count 0 0 false p_m.cycles 0
              else
                if (p_x.kind == 5) = true then
                  (part? p_m.items 0 r2).bind fun l5 =>
                    (part? p_m.items (IntKind.wrap .i64 (r2 + 1)) (p_m.items.length : Int)).bind fun l6 =>
                    (appO 64 ([] : List Item) l5).bind fun _ =>
                    (appO 64 (([] : List Item) ++ l5) l6).bind fun _ =>
                    some ((Machine.mk ((([] : List Item) ++ l5) ++ l6) p_m.cycles), 0)
                else
                  k2 p_m.cycles x1.name x1.life x1.used x1.faults x1.faulty x1.since x1.cycles) fun k1 =>
      (appO 64 ([] : List Item) p_m.items).bind fun _ =>
      k1 (([] : List Item) ++ p_m.items)

def ref58_Do (p_m : Machine) (p_x : Entry) : Option (Machine × Int) :=
  (ref58_Check p_m).bind fun r1 =>
  if (r1 != 0) = true then
  some ((Machine.mk [] 0), r1)
  else
  (ref58_Right p_x).bind fun r2 =>
    if (r2 != 0) = true then
    some ((Machine.mk [] 0), r2)
  else
    (ref58_Done p_m p_x).bind fun r3 =>
      some (r3.1, r3.2)

def ref58_Same_loop1 (p_a : Machine) (p_b : Machine) (k1 : (Option Bool)) : Nat → Int → Option Bool
  | 0, _ => none
  | m1 + 1, i1 => if (decide (i1 < (p_a.items.length : Int))) = true then
      (at? p_a.items i1).bind fun x1 =>
        (at? p_b.items i1).bind fun x2 =>
        if (!(x1 == x2)) = true then
        some false
      else
        ref58_Same_loop1 p_a p_b k1 m1 (IntKind.wrap .i64 (i1 + 1))
    else
      k1
def ref58_Same (p_a : Machine) (p_b : Machine) : Option Bool :=
  if ((p_a.cycles != p_b.cycles) || ((p_a.items.length : Int) != (p_b.items.length : Int))) = true then
  some false
  else
  joinK (some true) fun k1 =>
    ref58_Same_loop1 p_a p_b k1 (Int.toNat ((p_a.items.length : Int) - 0) + 1) 0

def law58_JournalDoes (p_m : Machine) (p_x : Entry) : Option Bool :=
  (law58_few p_m p_x.name).bind fun r1 =>
  if (!r1) = true then
  (law58_awake).bind fun r2 =>
    some r2
  else
  (journal_Do p_m p_x).bind fun r3 =>
    joinK (fun (i1 : Int) (l1 : (List Item)) (i2 : Int) =>
      (law58_awake).bind fun r9 =>
        if r9 = true then
        (journal_Check p_m).bind fun r10 =>
          (law58_own p_m).bind fun r11 =>
          (ref58_Check r11).bind fun r12 =>
          if (r10 == r12) = true then
          (journal_Right p_x).bind fun r13 =>
            (ref58_Right p_x).bind fun r14 =>
            if (r13 == r14) = true then
            (law58_own r3.1).bind fun r15 =>
              (ref58_Same r15 (Machine.mk l1 i2)).bind fun r16 =>
              if r16 = true then
              some (r3.2 == i1)
            else
              some false
          else
            some false
        else
          some false
      else
        some false) fun k1 =>
    (law58_own p_m).bind fun r4 =>
    (ref58_Do r4 p_x).bind fun r5 =>
    k1 r5.2 r5.1.items r5.1.cycles

def ref58_Due_loop1 (p_m : Machine) (k1 : ((List (List UInt8)) → Option ((List (List UInt8)) × Int))) : Nat → Int → (List (List UInt8)) → Option ((List (List UInt8)) × Int)
  | 0, _, _ => none
  | m1 + 1, i1, l1 => if (decide (i1 < (p_m.items.length : Int))) = true then
      joinK (fun (l3 : (List (List UInt8))) =>
          ref58_Due_loop1 p_m k1 m1 (IntKind.wrap .i64 (i1 + 1)) l3) fun k2 =>
        (at? p_m.items i1).bind fun x1 =>
        if (x1.faulty || (decide (x1.used ≥ x1.life))) = true then
        (appO 16 l1 ([x1.name] : List (List UInt8))).bind fun _ =>
          k2 (l1 ++ ([x1.name] : List (List UInt8)))
      else
        k2 l1
    else
      k1 l1
def ref58_Due (p_m : Machine) : Option ((List (List UInt8)) × Int) :=
  (ref58_Check p_m).bind fun r1 =>
  if (r1 != 0) = true then
  some ([], r1)
  else
  joinK (fun (l4 : (List (List UInt8))) =>
      some (l4, 0)) fun k1 =>
    ref58_Due_loop1 p_m k1 (Int.toNat ((p_m.items.length : Int) - 0) + 1) 0 ([] : List (List UInt8))

def ref58_Left (p_m : Machine) (p_name : (List UInt8)) (p_strokes : Int) : Option (Int × Int) :=
  (ref58_Check p_m).bind fun r1 =>
  if (r1 != 0) = true then
  some (0, r1)
  else
  (ref58_Place p_m p_name).bind fun r2 =>
    if (decide (r2 < 0)) = true then
    some (0, 6)
  else
    (ref58_in p_strokes 1 1048576).bind fun r3 =>
      if (!r3) = true then
      some (0, 2)
    else
      (at? p_m.items r2).bind fun x1 =>
        if (decide (x1.used ≥ x1.life)) = true then
        some (0, 0)
      else
        (guardO (p_strokes != 0)).bind fun _ =>
          some ((IntKind.wrap .i64 (Int.tdiv (IntKind.wrap .i64 ((IntKind.wrap .i64 ((IntKind.wrap .i64 (x1.life - x1.used)) + p_strokes)) - 1)) p_strokes)), 0)

def slices_Equal_stringstring_loop1 (p_s1 : (List (List UInt8))) (p_s2 : (List (List UInt8))) (k1 : (Option Bool)) : Nat → Int → Option Bool
  | 0, _ => none
  | m1 + 1, i1 => if (decide (i1 < (p_s1.length : Int))) = true then
      (at? p_s1 i1).bind fun x1 =>
        (at? p_s2 i1).bind fun x2 =>
        if (!(x1 == x2)) = true then
        some false
      else
        slices_Equal_stringstring_loop1 p_s1 p_s2 k1 m1 (IntKind.wrap .i64 (i1 + 1))
    else
      k1
def slices_Equal_stringstring (p_s1 : (List (List UInt8))) (p_s2 : (List (List UInt8))) : Option Bool :=
  if ((p_s1.length : Int) != (p_s2.length : Int)) = true then
  some false
  else
  joinK (some true) fun k1 =>
    slices_Equal_stringstring_loop1 p_s1 p_s2 k1 (Int.toNat ((p_s1.length : Int) - 0) + 1) 0

def law58_JournalAsks (p_m : Machine) (p_name : (List UInt8)) (p_strokes : Int) : Option Bool :=
  (law58_few p_m p_name).bind fun r1 =>
  if (!r1) = true then
  (law58_awake).bind fun r2 =>
    some r2
  else
  (journal_Due p_m).bind fun r3 =>
    (law58_own p_m).bind fun r4 =>
    (ref58_Due r4).bind fun r5 =>
    (journal_Left p_m p_name p_strokes).bind fun r6 =>
    (law58_own p_m).bind fun r7 =>
    (ref58_Left r7 p_name p_strokes).bind fun r8 =>
    (law58_awake).bind fun r9 =>
    (if r9 = true then (slices_Equal_stringstring r3.1 r5.1).bind fun r10 =>
    some r10 else some false).bind fun c1 =>
    some (((c1 && (r3.2 == r5.2)) && (r6.1 == r8.1)) && (r6.2 == r8.2))

def ref58_FewEntries_loop1 (p_l : (List Entry)) (k1 : (Option Bool)) : Nat → Int → Option Bool
  | 0, _ => none
  | m1 + 1, i1 => if (decide (i1 < (p_l.length : Int))) = true then
      (at? p_l i1).bind fun x1 =>
        if (decide ((x1.name.length : Int) > 60)) = true then
        some false
      else
        ref58_FewEntries_loop1 p_l k1 m1 (IntKind.wrap .i64 (i1 + 1))
    else
      k1
def ref58_FewEntries (p_l : (List Entry)) : Option Bool :=
  if (((decide ((p_l.length : Int) > 20)) && (decide ((p_l.length : Int) ≤ 4096))) || (decide ((p_l.length : Int) > 8192))) = true then
  some false
  else
  joinK (some true) fun k1 =>
    ref58_FewEntries_loop1 p_l k1 (Int.toNat ((p_l.length : Int) - 0) + 1) 0

def law58_entries_loop1 (p_l : (List Entry)) (k1 : ((List Entry) → Option (List Entry))) : Nat → Int → (List Entry) → Option (List Entry)
  | 0, _, _ => none
  | m1 + 1, i1, l1 => if (decide (i1 < (p_l.length : Int))) = true then
      (at? p_l i1).bind fun x1 =>
        (appO 40 l1 ([x1] : List Entry)).bind fun _ =>
        law58_entries_loop1 p_l k1 m1 (IntKind.wrap .i64 (i1 + 1)) (l1 ++ ([x1] : List Entry))
    else
      k1 l1
def law58_entries (p_l : (List Entry)) : Option (List Entry) :=
  joinK (fun (l3 : (List Entry)) =>
    some l3) fun k1 =>
  law58_entries_loop1 p_l k1 (Int.toNat ((p_l.length : Int) - 0) + 1) 0 ([] : List Entry)

def ref58_Run_loop1 (p_l : (List Entry)) (k1 : ((List Item) → Int → Option (Machine × Int × Int))) : Nat → Int → (List Item) → Int → Option (Machine × Int × Int)
  | 0, _, _, _ => none
  | m1 + 1, i1, l1, i2 => if (decide (i1 < (p_l.length : Int))) = true then
      joinK (fun (i3 : Int) (l2 : (List Item)) (i4 : Int) =>
          if (i3 != 0) = true then
            some ((Machine.mk [] 0), i1, i3)
          else
            ref58_Run_loop1 p_l k1 m1 (IntKind.wrap .i64 (i1 + 1)) l2 i4) fun k2 =>
        (at? p_l i1).bind fun x1 =>
        (ref58_Do (Machine.mk l1 i2) x1).bind fun r1 =>
        k2 r1.2 r1.1.items r1.1.cycles
    else
      k1 l1 i2
def ref58_Run (p_l : (List Entry)) : Option (Machine × Int × Int) :=
  if (decide ((p_l.length : Int) > 4096)) = true then
  some ((Machine.mk [] 0), 0, 5)
  else
  joinK (fun (l3 : (List Item)) (i5 : Int) =>
      some ((Machine.mk l3 i5), 0, 0)) fun k1 =>
    ref58_Run_loop1 p_l k1 (Int.toNat ((p_l.length : Int) - 0) + 1) 0 [] 0

def ref58_Line (p_before : Int) (p_s : (List UInt8)) : Option ((List UInt8) × Int) :=
  (ref58_Mark p_before p_s).bind fun r1 =>
  (catO p_s [32, 59, 32]).bind fun s1 =>
  (ref12_Digits r1).bind fun r2 =>
  (catO s1 r2).bind fun s2 =>
  (catO s2 [10]).bind fun s3 =>
  some (s3, r1)

def ref58_words  : Option (List (List UInt8)) :=
  some ([[112, 97, 114, 116], [99, 121, 99, 108, 101, 115], [102, 97, 117, 108, 116], [114, 101, 112, 97, 105, 114], [114, 101, 112, 108, 97, 99, 101], [114, 101, 109, 111, 118, 101]] : List (List UInt8))

def ref58_Written (p_x : Entry) : Option (List UInt8) :=
  (ref58_words).bind fun r1 =>
  (at? r1 p_x.kind).bind fun x1 =>
  (catO x1 [32]).bind fun s1 =>
  (catO s1 p_x.name).bind fun s2 =>
  joinK (fun (s5 : (List UInt8)) =>
    joinK (fun (s8 : (List UInt8)) =>
        some s8) fun k2 =>
      if (p_x.kind == 1) = true then
      (ref12_Digits p_x.strokes).bind fun r4 =>
        (catO [32] r4).bind fun s6 =>
        (catO s5 s6).bind fun s7 =>
        k2 s7
    else
      k2 s5) fun k1 =>
  (ref58_counted p_x.kind).bind fun r2 =>
  if r2 = true then
  (ref12_Digits p_x.count).bind fun r3 =>
    (catO [32] r3).bind fun s3 =>
    (catO s2 s3).bind fun s4 =>
    k1 s4
  else
  k1 s2

def ref58_Lined_loop1 (p_l : (List Entry)) (k1 : ((List UInt8) → Option (List UInt8))) : Nat → (List UInt8) → Int → Int → Option (List UInt8)
  | 0, _, _, _ => none
  | m1 + 1, s1, i1, i2 => if (decide (i2 < (p_l.length : Int))) = true then
      (at? p_l i2).bind fun x1 =>
        (ref58_Written x1).bind fun r1 =>
        (ref58_Line i1 r1).bind fun r2 =>
        (catO s1 r2.1).bind fun s2 =>
        ref58_Lined_loop1 p_l k1 m1 s2 r2.2 (IntKind.wrap .i64 (i2 + 1))
    else
      k1 s1
def ref58_Lined (p_l : (List Entry)) : Option (List UInt8) :=
  joinK (fun (s3 : (List UInt8)) =>
    some s3) fun k1 =>
  ref58_Lined_loop1 p_l k1 (Int.toNat ((p_l.length : Int) - 0) + 1) [] 0 0

def ref58_Log (p_l : (List Entry)) : Option ((List UInt8) × Int) :=
  (ref58_Run p_l).bind fun r1 =>
  if (r1.2.2 != 0) = true then
  some ([], r1.2.2)
  else
  (ref58_Lined p_l).bind fun r2 =>
    if (decide ((r2.length : Int) > 262144)) = true then
    some ([], 17)
  else
    some (r2, 0)

def law58_JournalRuns (p_l : (List Entry)) : Option Bool :=
  (law58_entries p_l).bind fun r1 =>
  (ref58_FewEntries r1).bind fun r2 =>
  if (!r2) = true then
  (law58_awake).bind fun r3 =>
    some r3
  else
  (journal_Run p_l).bind fun r4 =>
    (law58_entries p_l).bind fun r5 =>
    (ref58_Run r5).bind fun r6 =>
    (journal_Log p_l).bind fun r7 =>
    (law58_entries p_l).bind fun r8 =>
    (ref58_Log r8).bind fun r9 =>
    (law58_awake).bind fun r10 =>
    if r10 = true then
    (law58_own r4.1).bind fun r11 =>
      (ref58_Same r11 r6.1).bind fun r12 =>
      if r12 = true then
      if (r4.2.1 == r6.2.1) = true then
        if (r4.2.2 == r6.2.2) = true then
          if (r7.1 == r9.1) = true then
            some (r7.2 == r9.2)
          else
            some false
        else
          some false
      else
        some false
    else
      some false
  else
    some false

def law58_right (p_l : (List Entry)) : Option Bool :=
  (if (decide ((p_l.length : Int) > 20)) = true then some true else (law58_entries p_l).bind fun r1 =>
  (ref58_FewEntries r1).bind fun r2 =>
  some (!r2)).bind fun c1 =>
  if c1 = true then
  some false
  else
  (law58_entries p_l).bind fun r3 =>
    (ref58_Run r3).bind fun r4 =>
    some (r4.2.2 == 0)

def law58_JournalSwaps (p_l : (List Entry)) (p_x : Entry) (p_y : Entry) : Option Bool :=
  (law58_right p_l).bind fun r1 =>
  if (((((!r1) || (decide ((p_x.name.length : Int) > 60))) || (decide ((p_y.name.length : Int) > 60))) || (p_x.name == p_y.name)) || (((p_y.kind != 2) && (p_y.kind != 3)) && (p_y.kind != 5))) = true then
  (law58_awake).bind fun r2 =>
    some r2
  else
  (journal_Run p_l).bind fun r3 =>
    if ((r3.2.2 != 0) || (decide ((r3.1.items.length : Int) > 20))) = true then
    some false
  else
    (journal_Do r3.1 p_x).bind fun r4 =>
      if (r4.2 != 0) = true then
      (law58_awake).bind fun r5 =>
        some r5
    else
      (journal_Do r4.1 p_y).bind fun r6 =>
        (journal_Do r3.1 p_y).bind fun r7 =>
        if ((r6.2 != 0) || (r7.2 != 0)) = true then
        (if (r6.2 == r7.2) = true then (law58_awake).bind fun r8 =>
          some r8 else some false).bind fun c1 =>
          some c1
      else
        (journal_Do r7.1 p_x).bind fun r9 =>
          if (r9.2 == 0) = true then
          (law58_own r6.1).bind fun r10 =>
            (law58_own r9.1).bind fun r11 =>
            (ref58_Same r10 r11).bind fun r12 =>
            if r12 = true then
            (law58_awake).bind fun r13 =>
              some r13
          else
            some false
        else
          some false

def slices_Index_stringstring_loop1 (p_s : (List (List UInt8))) (p_v : (List UInt8)) (k1 : (Option Int)) : Nat → Int → Option Int
  | 0, _ => none
  | m1 + 1, i1 => if (decide (i1 < (p_s.length : Int))) = true then
      (at? p_s i1).bind fun x1 =>
        if (p_v == x1) = true then
        some i1
      else
        slices_Index_stringstring_loop1 p_s p_v k1 m1 (IntKind.wrap .i64 (i1 + 1))
    else
      k1
def slices_Index_stringstring (p_s : (List (List UInt8))) (p_v : (List UInt8)) : Option Int :=
  joinK (some (-1)) fun k1 =>
  slices_Index_stringstring_loop1 p_s p_v k1 (Int.toNat ((p_s.length : Int) - 0) + 1) 0

def slices_Contains_stringstring (p_s : (List (List UInt8))) (p_v : (List UInt8)) : Option Bool :=
  (slices_Index_stringstring p_s p_v).bind fun r1 =>
  some (decide (r1 ≥ 0))

def law58_JournalAdds (p_l : (List Entry)) (p_x : Entry) (p_first : Int) : Option Bool :=
  (law58_right p_l).bind fun r1 =>
  (if (((!r1) || (decide ((p_x.name.length : Int) > 60))) || (p_x.kind != 1)) = true then some true else (ref58_Right p_x).bind fun r2 =>
  some (r2 != 0)).bind fun c1 =>
  if c1 = true then
  (law58_awake).bind fun r3 =>
    some r3
  else
  (journal_Run p_l).bind fun r4 =>
    (if (r4.2.2 != 0) = true then some true else (law58_own r4.1).bind fun r5 =>
    (ref58_Check r5).bind fun r6 =>
    some (r6 != 0)).bind fun c2 =>
    if c2 = true then
    some false
  else
    (journal_Do r4.1 p_x).bind fun r7 =>
      if (r7.2 != 0) = true then
      (if (((r7.2 == 6) || (r7.2 == 14)) || (r7.2 == 11)) = true then (law58_awake).bind fun r8 =>
        some r8 else some false).bind fun c3 =>
        some c3
    else
      joinK (if (p_x.strokes == 0) = true then
        (law58_awake).bind fun r14 =>
          some r14
      else
        (journal_Left r4.1 p_x.name p_x.strokes).bind fun r15 =>
          (journal_Due r7.1).bind fun r16 =>
          (if ((IntKind.wrap .i64 (r15.2 + r16.2)) == 0) = true then (slices_Contains_stringstring r16.1 p_x.name).bind fun r17 =>
          some (r17 == (decide (p_x.count ≥ r15.1))) else some false).bind fun c5 =>
          (if c5 = true then (law58_awake).bind fun r18 =>
          some r18 else some false).bind fun c6 =>
          some c6) fun k1 =>
        if (decide (p_x.count > 1)) = true then
        (guardO ((IntKind.wrap .i64 (p_x.count - 1)) != 0)).bind fun _ =>
          joinK ((journal_Do r4.1 (Entry.mk p_x.kind p_x.name (IntKind.wrap .i64 ((Int.tmod (IntKind.wrap .i64 p_first) (IntKind.wrap .i64 (p_x.count - 1))) + 1)) p_x.strokes)).bind fun r9 =>
          (journal_Do r9.1 (Entry.mk p_x.kind p_x.name (IntKind.wrap .i64 (p_x.count - (IntKind.wrap .i64 ((Int.tmod (IntKind.wrap .i64 p_first) (IntKind.wrap .i64 (p_x.count - 1))) + 1)))) p_x.strokes)).bind fun r10 =>
          joinK (fun (c4 : Bool) =>
            if c4 = true then
              some false
            else
              k1) fun k3 =>
          if ((IntKind.wrap .i64 (r9.2 + r10.2)) != 0) = true then
          k3 true
        else
          (law58_own r10.1).bind fun r11 =>
            (law58_own r7.1).bind fun r12 =>
            (ref58_Same r11 r12).bind fun r13 =>
            k3 (!r13)) fun k2 =>
          k2
      else
        k1

def cmp_isNaN_int (p_x : Int) : Option Bool :=
  some (p_x != p_x)

def cmp_Less_int (p_x : Int) (p_y : Int) : Option Bool :=
  (cmp_isNaN_int p_x).bind fun r1 =>
  (if r1 = true then (cmp_isNaN_int p_y).bind fun r2 =>
  some (!r2) else some false).bind fun c1 =>
  some (c1 || (decide (p_x < p_y)))

def slices_Equal_api_Strokeapi_Stroke_loop1 (p_s1 : (List Stroke)) (p_s2 : (List Stroke)) (k1 : (Option Bool)) : Nat → Int → Option Bool
  | 0, _ => none
  | m1 + 1, i1 => if (decide (i1 < (p_s1.length : Int))) = true then
      (at? p_s1 i1).bind fun x1 =>
        (at? p_s2 i1).bind fun x2 =>
        if (!(x1 == x2)) = true then
        some false
      else
        slices_Equal_api_Strokeapi_Stroke_loop1 p_s1 p_s2 k1 m1 (IntKind.wrap .i64 (i1 + 1))
    else
      k1
def slices_Equal_api_Strokeapi_Stroke (p_s1 : (List Stroke)) (p_s2 : (List Stroke)) : Option Bool :=
  if ((p_s1.length : Int) != (p_s2.length : Int)) = true then
  some false
  else
  joinK (some true) fun k1 =>
    slices_Equal_api_Strokeapi_Stroke_loop1 p_s1 p_s2 k1 (Int.toNat ((p_s1.length : Int) - 0) + 1) 0

def stroke_Same (p_a : Step) (p_b : Step) : Option Bool :=
  (if (p_a.wait == p_b.wait) = true then (slices_Equal_api_Strokeapi_Stroke p_a.strokes p_b.strokes).bind fun r1 =>
  some r1 else some false).bind fun c1 =>
  some c1

def slices_EqualFunc_api_Step_api_Stepapi_Stepapi_Step_stroke_Same_loop1 (p_s1 : (List Step)) (p_s2 : (List Step)) (k1 : (Option Bool)) : Nat → Int → Option Bool
  | 0, _ => none
  | m1 + 1, i1 => if (decide (i1 < (p_s1.length : Int))) = true then
      (at? p_s1 i1).bind fun x1 =>
        (at? p_s2 i1).bind fun x2 =>
        (if (x1.wait == x2.wait) = true then (slices_Equal_api_Strokeapi_Stroke x1.strokes x2.strokes).bind fun r1 =>
        some r1 else some false).bind fun c1 =>
        if (!c1) = true then
        some false
      else
        slices_EqualFunc_api_Step_api_Stepapi_Stepapi_Step_stroke_Same_loop1 p_s1 p_s2 k1 m1 (IntKind.wrap .i64 (i1 + 1))
    else
      k1
def slices_EqualFunc_api_Step_api_Stepapi_Stepapi_Step_stroke_Same (p_s1 : (List Step)) (p_s2 : (List Step)) : Option Bool :=
  if ((p_s1.length : Int) != (p_s2.length : Int)) = true then
  some false
  else
  joinK (some true) fun k1 =>
    slices_EqualFunc_api_Step_api_Stepapi_Stepapi_Step_stroke_Same_loop1 p_s1 p_s2 k1 (Int.toNat ((p_s1.length : Int) - 0) + 1) 0

def stroke_written (p_x : Stroke) : Option (List UInt8) :=
  if p_x.out = true then
  (catO ((Utf8.encode (IntKind.wrap .i32 (IntKind.wrap .i64 (65 + p_x.actuator)))).data.toList) [43]).bind fun s1 =>
    some s1
  else
  (catO ((Utf8.encode (IntKind.wrap .i32 (IntKind.wrap .i64 (65 + p_x.actuator)))).data.toList) [45]).bind fun s2 =>
    some s2

def stroke_Format_loop2 (x1 : Step) (k3 : ((List (List UInt8)) → Option ((List UInt8) × Int))) : Nat → Int → (List (List UInt8)) → Option ((List UInt8) × Int)
  | 0, _, _ => none
  | m2 + 1, i2, l2 => if (decide (i2 < (x1.strokes.length : Int))) = true then
      (at? x1.strokes i2).bind fun x2 =>
        (stroke_written x2).bind fun r2 =>
        (appO 16 l2 ([r2] : List (List UInt8))).bind fun _ =>
        stroke_Format_loop2 x1 k3 m2 (IntKind.wrap .i64 (i2 + 1)) (l2 ++ ([r2] : List (List UInt8)))
    else
      k3 l2
def stroke_Format_loop1 (p_l : (List Step)) (k1 : ((List (List UInt8)) → Option ((List UInt8) × Int))) : Nat → Int → (List (List UInt8)) → Option ((List UInt8) × Int)
  | 0, _, _ => none
  | m1 + 1, i1, l1 => if (decide (i1 < (p_l.length : Int))) = true then
      joinK (fun (l8 : (List (List UInt8))) =>
          stroke_Format_loop1 p_l k1 m1 (IntKind.wrap .i64 (i1 + 1)) l8) fun k2 =>
        (at? p_l i1).bind fun x1 =>
        (stroke_CheckStep x1).bind fun r1 =>
        if (r1 != 0) = true then
        some ([], r1)
      else
        joinK (fun (l4 : (List (List UInt8))) =>
            joinK (fun (l6 : (List (List UInt8))) =>
                (joinS l6 [32]).bind fun r4 =>
                  (appO 16 l1 ([r4] : List (List UInt8))).bind fun _ =>
                  k2 (l1 ++ ([r4] : List (List UInt8)))) fun k4 =>
              if (decide (x1.wait > 0)) = true then
              (itoa x1.wait).bind fun r3 =>
                (appO 16 l4 ([r3] : List (List UInt8))).bind fun _ =>
                k4 (l4 ++ ([r3] : List (List UInt8)))
            else
              k4 l4) fun k3 =>
          stroke_Format_loop2 x1 k3 (Int.toNat ((x1.strokes.length : Int) - 0) + 1) 0 ([] : List (List UInt8))
    else
      k1 l1
def stroke_Format (p_l : (List Step)) : Option ((List UInt8) × Int) :=
  if (decide ((p_l.length : Int) > 64)) = true then
  some ([], 5)
  else
  joinK (fun (l9 : (List (List UInt8))) =>
      (joinS l9 [59, 32]).bind fun r5 =>
        some (r5, 0)) fun k1 =>
    stroke_Format_loop1 p_l k1 (Int.toNat ((p_l.length : Int) - 0) + 1) 0 ([] : List (List UInt8))

def stroke_read (p_s : (List UInt8)) : Option (Stroke × Bool) :=
  (if ((p_s.length : Int) != 2) = true then some true else (byteAt p_s 0).bind fun b2 =>
  some (decide ((b2.toNat : Int) < 65))).bind fun c1 =>
  (if c1 = true then some true else (byteAt p_s 0).bind fun b3 =>
  (stroke_known (IntKind.wrap .i64 (IntKind.wrap .u8 ((b3.toNat : Int) - 65)))).bind fun r1 =>
  some (!r1)).bind fun c2 =>
  (if c2 = true then some true else (byteAt p_s 1).bind fun b4 =>
  (if ((b4.toNat : Int) != 43) = true then (byteAt p_s 1).bind fun b5 =>
  some ((b5.toNat : Int) != 45) else some false).bind fun c4 =>
  some c4).bind fun c3 =>
  if c3 = true then
  some ((Stroke.mk 0 false), false)
  else
  (byteAt p_s 0).bind fun b6 =>
    (byteAt p_s 1).bind fun b7 =>
    some ((Stroke.mk (IntKind.wrap .i64 (IntKind.wrap .u8 ((b6.toNat : Int) - 65))) ((b7.toNat : Int) == 43)), true)

def stroke_delay (p_s : (List UInt8)) : Option (Int × Bool) :=
  (if ((p_s == []) || (decide ((p_s.length : Int) > 7))) = true then some true else (byteAt p_s 0).bind fun b1 =>
  some ((b1.toNat : Int) == 48)).bind fun c1 =>
  (if c1 = true then some true else (trimS p_s [48, 49, 50, 51, 52, 53, 54, 55, 56, 57]).bind fun r1 =>
  some (!(r1 == []))).bind fun c2 =>
  if c2 = true then
  some (0, false)
  else
  (strconv_Atoi p_s).bind fun r2 =>
    some (r2.1, true)

def stroke_step_loop1 (p_s : (List UInt8)) (r1 : ((List (List UInt8)))) : Nat → Int → Int → Int → (List Stroke) → Option (Step × Int)
  | 0, _, _, _, _ => none
  | m1 + 1, i1, i2, i3, l2 => if (decide (i2 < (r1.length : Int))) = true then
      (at? r1 i2).bind fun x1 =>
        joinK (fun (i4 : Int) (l4 : (List Stroke)) =>
          stroke_step_loop1 p_s r1 m1 (IntKind.wrap .i64 (i1 + (IntKind.wrap .i64 ((x1.length : Int) + (([32] : List UInt8).length : Int))))) (IntKind.wrap .i64 (i2 + 1)) i4 l4) fun k1 =>
        (stroke_read x1).bind fun r2 =>
        if (r2.2 && (i3 == 0)) = true then
        (appO 16 l2 ([r2.1] : List Stroke)).bind fun _ =>
          k1 i3 (l2 ++ ([r2.1] : List Stroke))
      else
        (stroke_delay x1).bind fun r3 =>
          if (((!r3.2) || (i1 == 0)) || (decide ((IntKind.wrap .i64 (i1 + (x1.length : Int))) < (p_s.length : Int)))) = true then
          some ((Step.mk [] 0), 4)
        else
          k1 r3.1 l2
    else
      (stroke_CheckStep (Step.mk l2 i3)).bind fun r4 =>
        some ((Step.mk l2 i3), r4)
def stroke_step (p_s : (List UInt8)) : Option (Step × Int) :=
  (splitS p_s [32]).bind fun r1 =>
  stroke_step_loop1 p_s r1 (Int.toNat ((r1.length : Int) - 0) + 1) 0 0 0 ([] : List Stroke)

def stroke_Parse_loop1 (r1 : ((List (List UInt8)))) : Nat → Int → Int → (List Step) → Option ((List Step) × Int × Int)
  | 0, _, _, _ => none
  | m1 + 1, i1, i2, l2 => if (decide (i2 < (r1.length : Int))) = true then
      (at? r1 i2).bind fun x1 =>
        if ((l2.length : Int) == 64) = true then
        some ([], i1, 5)
      else
        (stroke_step x1).bind fun r2 =>
          if (r2.2 != 0) = true then
          some ([], i1, r2.2)
        else
          (appO 32 l2 ([r2.1] : List Step)).bind fun _ =>
            stroke_Parse_loop1 r1 m1 (IntKind.wrap .i64 (i1 + (IntKind.wrap .i64 ((x1.length : Int) + (([59, 32] : List UInt8).length : Int))))) (IntKind.wrap .i64 (i2 + 1)) (l2 ++ ([r2.1] : List Step))
    else
      some (l2, 0, 0)
def stroke_Parse (p_s : (List UInt8)) : Option ((List Step) × Int × Int) :=
  if (decide ((p_s.length : Int) > 4096)) = true then
  some ([], 0, 17)
  else
  if (p_s == []) = true then
    some ([], 0, 0)
  else
    (splitS p_s [59, 32]).bind fun r1 =>
      stroke_Parse_loop1 r1 (Int.toNat ((r1.length : Int) - 0) + 1) 0 0 ([] : List Step)

def ref13_Cut_loop1 (p_s : (List UInt8)) (p_by : (List UInt8)) (k1 : (Int → (List (List UInt8)) → Option (List (List UInt8)))) : Nat → Int → Int → (List (List UInt8)) → Option (List (List UInt8))
  | 0, _, _, _ => none
  | m1 + 1, i1, i2, l1 => if (decide ((IntKind.wrap .i64 (i2 + (p_by.length : Int))) ≤ (p_s.length : Int))) = true then
      joinK (fun (i3 : Int) (l3 : (List (List UInt8))) =>
          ref13_Cut_loop1 p_s p_by k1 m1 i3 (IntKind.wrap .i64 (i2 + 1)) l3) fun k2 =>
        (if (decide (i2 ≥ i1)) = true then (cut p_s i2 (IntKind.wrap .i64 (i2 + (p_by.length : Int)))).bind fun s1 =>
        some (s1 == p_by) else some false).bind fun c1 =>
        if c1 = true then
        (cut p_s i1 i2).bind fun s2 =>
          (appO 16 l1 ([s2] : List (List UInt8))).bind fun _ =>
          k2 (IntKind.wrap .i64 (i2 + (p_by.length : Int))) (l1 ++ ([s2] : List (List UInt8)))
      else
        k2 i1 l1
    else
      k1 i1 l1
def ref13_Cut (p_s : (List UInt8)) (p_by : (List UInt8)) : Option (List (List UInt8)) :=
  joinK (fun (i4 : Int) (l4 : (List (List UInt8))) =>
    (cut p_s i4 (p_s.length : Int)).bind fun s3 =>
      (appO 16 l4 ([s3] : List (List UInt8))).bind fun _ =>
      some (l4 ++ ([s3] : List (List UInt8)))) fun k1 =>
  ref13_Cut_loop1 p_s p_by k1 (p_s.length + 2) 0 0 ([] : List (List UInt8))

def ref13_Written (p_x : Stroke) : Option (List UInt8) :=
  (cut [65, 66, 67, 68, 69, 70] p_x.actuator (IntKind.wrap .i64 (p_x.actuator + 1))).bind fun s1 =>
  if p_x.out = true then
  (catO s1 [43]).bind fun s2 =>
    some s2
  else
  (catO s1 [45]).bind fun s3 =>
    some s3

def ref13_read_loop2 (p_s : (List UInt8)) (i1 : Int) (k2 : (Option (Stroke × Bool))) : Nat → Int → Option (Stroke × Bool)
  | 0, _ => none
  | m2 + 1, i2 => if (decide (i2 < (([false, true] : List Bool).length : Int))) = true then
      (at? ([false, true] : List Bool) i2).bind fun x1 =>
        (ref13_Written (Stroke.mk i1 x1)).bind fun r1 =>
        if (r1 == p_s) = true then
        some ((Stroke.mk i1 x1), true)
      else
        ref13_read_loop2 p_s i1 k2 m2 (IntKind.wrap .i64 (i2 + 1))
    else
      k2
def ref13_read_loop1 (k1 : (Option (Stroke × Bool))) (p_s : (List UInt8)) : Nat → Int → Option (Stroke × Bool)
  | 0, _ => none
  | m1 + 1, i1 => if (decide (i1 < 6)) = true then
      joinK (ref13_read_loop1 k1 p_s m1 (IntKind.wrap .i64 (i1 + 1))) fun k2 =>
        ref13_read_loop2 p_s i1 k2 (Int.toNat ((([false, true] : List Bool).length : Int) - 0) + 1) 0
    else
      k1
def ref13_read (p_s : (List UInt8)) : Option (Stroke × Bool) :=
  joinK (some ((Stroke.mk 0 false), false)) fun k1 =>
  ref13_read_loop1 k1 p_s (Int.toNat (6 - 0) + 1) 0

def ref03_Number_loop1 (p_s : (List UInt8)) (k1 : (Int → Option (Int × Bool))) : Nat → Int → Int → Option (Int × Bool)
  | 0, _, _ => none
  | m1 + 1, i1, i2 => if (decide (i2 < (p_s.length : Int))) = true then
      (byteAt p_s i2).bind fun b2 =>
        (if (decide ((b2.toNat : Int) < 48)) = true then some true else (byteAt p_s i2).bind fun b3 =>
        some (decide ((b3.toNat : Int) > 57))).bind fun c3 =>
        if c3 = true then
        some (0, false)
      else
        (byteAt p_s i2).bind fun b4 =>
          ref03_Number_loop1 p_s k1 m1 (IntKind.wrap .i64 ((IntKind.wrap .i64 (10 * i1)) + (IntKind.wrap .i64 (IntKind.wrap .u8 ((b4.toNat : Int) - 48))))) (IntKind.wrap .i64 (i2 + 1))
    else
      k1 i1
def ref03_Number (p_s : (List UInt8)) : Option (Int × Bool) :=
  (if ((p_s == []) || (decide ((p_s.length : Int) > 7))) = true then some true else (if (decide ((p_s.length : Int) > 1)) = true then (byteAt p_s 0).bind fun b1 =>
  some ((b1.toNat : Int) == 48) else some false).bind fun c2 =>
  some c2).bind fun c1 =>
  if c1 = true then
  some (0, false)
  else
  joinK (fun (i3 : Int) =>
      some (i3, true)) fun k1 =>
    ref03_Number_loop1 p_s k1 (Int.toNat ((p_s.length : Int) - 0) + 1) 0 0

def ref13_Step_loop1 (r1 : ((List (List UInt8)))) (k1 : (Int → (List Stroke) → Option (Step × Int))) : Nat → Int → Int → (List Stroke) → Option (Step × Int)
  | 0, _, _, _ => none
  | m1 + 1, i1, i2, l1 => if (decide (i1 < (r1.length : Int))) = true then
      joinK (fun (i3 : Int) (l3 : (List Stroke)) =>
          ref13_Step_loop1 r1 k1 m1 (IntKind.wrap .i64 (i1 + 1)) i3 l3) fun k2 =>
        (at? r1 i1).bind fun x1 =>
        (ref13_read x1).bind fun r2 =>
        if (r2.2 && (i2 == 0)) = true then
        (appO 16 l1 ([r2.1] : List Stroke)).bind fun _ =>
          k2 i2 (l1 ++ ([r2.1] : List Stroke))
      else
        (at? r1 i1).bind fun x2 =>
          (ref03_Number x2).bind fun r3 =>
          if ((((!r3.2) || (r3.1 == 0)) || (i1 == 0)) || (decide (i1 < (IntKind.wrap .i64 ((r1.length : Int) - 1))))) = true then
          some ((Step.mk [] 0), 4)
        else
          k2 r3.1 l1
    else
      k1 i2 l1
def ref13_Step (p_s : (List UInt8)) : Option (Step × Int) :=
  (ref13_Cut p_s [32]).bind fun r1 =>
  joinK (fun (i4 : Int) (l4 : (List Stroke)) =>
    (ref13_CheckStep (Step.mk l4 i4)).bind fun r4 =>
      if (r4 != 0) = true then
      some ((Step.mk [] 0), r4)
    else
      some ((Step.mk l4 i4), 0)) fun k1 =>
  ref13_Step_loop1 r1 k1 (Int.toNat ((r1.length : Int) - 0) + 1) 0 0 ([] : List Stroke)

def ref13_Parse_loop1 (r1 : ((List (List UInt8)))) (k1 : ((List Step) → Option ((List Step) × Int × Int))) : Nat → Int → Int → (List Step) → Option ((List Step) × Int × Int)
  | 0, _, _, _ => none
  | m1 + 1, i1, i2, l1 => if (decide (i2 < (r1.length : Int))) = true then
      if (i2 == 64) = true then
        some ([], i1, 5)
      else
        (at? r1 i2).bind fun x1 =>
          (ref13_Step x1).bind fun r2 =>
          if (r2.2 != 0) = true then
          some ([], i1, r2.2)
        else
          (appO 32 l1 ([r2.1] : List Step)).bind fun _ =>
            (at? r1 i2).bind fun x2 =>
            ref13_Parse_loop1 r1 k1 m1 (IntKind.wrap .i64 (i1 + (IntKind.wrap .i64 ((x2.length : Int) + 2)))) (IntKind.wrap .i64 (i2 + 1)) (l1 ++ ([r2.1] : List Step))
    else
      k1 l1
def ref13_Parse (p_s : (List UInt8)) : Option ((List Step) × Int × Int) :=
  if (decide ((p_s.length : Int) > 4096)) = true then
  some ([], 0, 17)
  else
  if (p_s == []) = true then
    some ([], 0, 0)
  else
    (ref13_Cut p_s [59, 32]).bind fun r1 =>
      joinK (fun (l3 : (List Step)) =>
        some (l3, 0, 0)) fun k1 =>
      ref13_Parse_loop1 r1 k1 (Int.toNat ((r1.length : Int) - 0) + 1) 0 0 ([] : List Step)

def ref13_SameStrokes_loop1 (p_a : (List Stroke)) (p_b : (List Stroke)) (k1 : (Option Bool)) : Nat → Int → Option Bool
  | 0, _ => none
  | m1 + 1, i1 => if (decide (i1 < (p_a.length : Int))) = true then
      (at? p_a i1).bind fun x1 =>
        (at? p_b i1).bind fun x2 =>
        if (!(x1 == x2)) = true then
        some false
      else
        ref13_SameStrokes_loop1 p_a p_b k1 m1 (IntKind.wrap .i64 (i1 + 1))
    else
      k1
def ref13_SameStrokes (p_a : (List Stroke)) (p_b : (List Stroke)) : Option Bool :=
  if ((p_a.length : Int) != (p_b.length : Int)) = true then
  some false
  else
  joinK (some true) fun k1 =>
    ref13_SameStrokes_loop1 p_a p_b k1 (Int.toNat ((p_a.length : Int) - 0) + 1) 0

def ref13_Same (p_a : Step) (p_b : Step) : Option Bool :=
  (if (p_a.wait == p_b.wait) = true then (ref13_SameStrokes p_a.strokes p_b.strokes).bind fun r1 =>
  some r1 else some false).bind fun c1 =>
  some c1

def ref13_SameSteps_loop1 (p_a : (List Step)) (p_b : (List Step)) (k1 : (Option Bool)) : Nat → Int → Option Bool
  | 0, _ => none
  | m1 + 1, i1 => if (decide (i1 < (p_a.length : Int))) = true then
      (at? p_a i1).bind fun x1 =>
        (at? p_b i1).bind fun x2 =>
        (ref13_Same x1 x2).bind fun r1 =>
        if (!r1) = true then
        some false
      else
        ref13_SameSteps_loop1 p_a p_b k1 m1 (IntKind.wrap .i64 (i1 + 1))
    else
      k1
def ref13_SameSteps (p_a : (List Step)) (p_b : (List Step)) : Option Bool :=
  if ((p_a.length : Int) != (p_b.length : Int)) = true then
  some false
  else
  joinK (some true) fun k1 =>
    ref13_SameSteps_loop1 p_a p_b k1 (Int.toNat ((p_a.length : Int) - 0) + 1) 0

def stroke_Has_loop1 (p_x : Step) (p_actuator : Int) (k1 : (Option (Int × Int))) : Nat → Int → Option (Int × Int)
  | 0, _ => none
  | m1 + 1, i1 => if (decide (i1 < (p_x.strokes.length : Int))) = true then
      (at? p_x.strokes i1).bind fun x1 =>
        if (x1.actuator != p_actuator) = true then
        stroke_Has_loop1 p_x p_actuator k1 m1 (IntKind.wrap .i64 (i1 + 1))
      else
        if x1.out = true then
          some (1, 0)
        else
          some ((-1), 0)
    else
      k1
def stroke_Has (p_x : Step) (p_actuator : Int) : Option (Int × Int) :=
  (stroke_CheckStep p_x).bind fun r1 =>
  if (r1 != 0) = true then
  some (0, r1)
  else
  (stroke_known p_actuator).bind fun r2 =>
    if (!r2) = true then
    some (0, 2)
  else
    joinK (some (0, 0)) fun k1 =>
      stroke_Has_loop1 p_x p_actuator k1 (Int.toNat ((p_x.strokes.length : Int) - 0) + 1) 0

def stroke_given (p_x : Step) (p_ends : (List Bool)) : Option Int :=
  (stroke_CheckStep p_x).bind fun r1 =>
  if (r1 != 0) = true then
  some r1
  else
  if (decide ((p_ends.length : Int) > 6)) = true then
    some 5
  else
    some 0

def stroke_fits_loop1 (p_x : Step) (p_ends : (List Bool)) (k1 : (Option Bool)) : Nat → Int → Option Bool
  | 0, _ => none
  | m1 + 1, i1 => if (decide (i1 < (p_x.strokes.length : Int))) = true then
      (at? p_x.strokes i1).bind fun x1 =>
        (if (decide (x1.actuator ≥ (p_ends.length : Int))) = true then some true else (at? p_ends x1.actuator).bind fun x2 =>
        some (x2 == x1.out)).bind fun c1 =>
        if c1 = true then
        some (!(decide (i1 ≥ 0)))
      else
        stroke_fits_loop1 p_x p_ends k1 m1 (IntKind.wrap .i64 (i1 + 1))
    else
      k1
def stroke_fits (p_x : Step) (p_ends : (List Bool)) : Option Bool :=
  joinK (some (!(decide (((-1) : Int) ≥ 0)))) fun k1 =>
  stroke_fits_loop1 p_x p_ends k1 (Int.toNat ((p_x.strokes.length : Int) - 0) + 1) 0

def stroke_Apply_loop1 (p_x : Step) (k1 : ((List Bool) → Option ((List Bool) × Int))) : Nat → Int → (List Bool) → Option ((List Bool) × Int)
  | 0, _, _ => none
  | m1 + 1, i1, l2 => if (decide (i1 < (p_x.strokes.length : Int))) = true then
      (at? p_x.strokes i1).bind fun x1 =>
        (at? l2 x1.actuator).bind fun x2 =>
        stroke_Apply_loop1 p_x k1 m1 (IntKind.wrap .i64 (i1 + 1)) (List.set l2 (Int.toNat x1.actuator) x1.out)
    else
      k1 l2
def stroke_Apply (p_x : Step) (p_ends : (List Bool)) : Option ((List Bool) × Int) :=
  (stroke_given p_x p_ends).bind fun r1 =>
  if (r1 != 0) = true then
  some ([], r1)
  else
  (stroke_fits p_x p_ends).bind fun r2 =>
    if (!r2) = true then
    some ([], 14)
  else
    (appO 1 ([] : List Bool) p_ends).bind fun _ =>
      joinK (fun (l3 : (List Bool)) =>
        some (l3, 0)) fun k1 =>
      stroke_Apply_loop1 p_x k1 (Int.toNat ((p_x.strokes.length : Int) - 0) + 1) 0 p_ends

def slices_Equal_boolbool_loop1 (p_s1 : (List Bool)) (p_s2 : (List Bool)) (k1 : (Option Bool)) : Nat → Int → Option Bool
  | 0, _ => none
  | m1 + 1, i1 => if (decide (i1 < (p_s1.length : Int))) = true then
      (at? p_s1 i1).bind fun x1 =>
        (at? p_s2 i1).bind fun x2 =>
        if (!(x1 == x2)) = true then
        some false
      else
        slices_Equal_boolbool_loop1 p_s1 p_s2 k1 m1 (IntKind.wrap .i64 (i1 + 1))
    else
      k1
def slices_Equal_boolbool (p_s1 : (List Bool)) (p_s2 : (List Bool)) : Option Bool :=
  if ((p_s1.length : Int) != (p_s2.length : Int)) = true then
  some false
  else
  joinK (some true) fun k1 =>
    slices_Equal_boolbool_loop1 p_s1 p_s2 k1 (Int.toNat ((p_s1.length : Int) - 0) + 1) 0

def ref03_Digits_loop1 (k1 : ((List UInt8) → Option (List UInt8))) : Nat → (List UInt8) → Int → Option (List UInt8)
  | 0, _, _ => none
  | m1 + 1, s1, i1 => if ((decide (i1 > 0)) || (s1 == [])) = true then
      (cut [48, 49, 50, 51, 52, 53, 54, 55, 56, 57] (Int.tmod i1 10) (IntKind.wrap .i64 ((Int.tmod i1 10) + 1))).bind fun s2 =>
        (catO s2 s1).bind fun s3 =>
        ref03_Digits_loop1 k1 m1 s3 (IntKind.wrap .i64 (Int.tdiv i1 10))
    else
      k1 s1
def ref03_Digits (p_n : Int) : Option (List UInt8) :=
  joinK (fun (s4 : (List UInt8)) =>
    some s4) fun k1 =>
  ref03_Digits_loop1 k1 (p_n.toNat + 2) [] p_n

def ref13_Line_loop1 (p_x : Step) (k1 : ((List UInt8) → Option (List UInt8))) : Nat → (List UInt8) → Int → Option (List UInt8)
  | 0, _, _ => none
  | m1 + 1, s1, i1 => if (decide (i1 < (p_x.strokes.length : Int))) = true then
      joinK (fun (s3 : (List UInt8)) =>
          (at? p_x.strokes i1).bind fun x1 =>
            (ref13_Written x1).bind fun r1 =>
            (catO s3 r1).bind fun s4 =>
            ref13_Line_loop1 p_x k1 m1 s4 (IntKind.wrap .i64 (i1 + 1))) fun k2 =>
        if (decide (i1 > 0)) = true then
        (catO s1 [32]).bind fun s2 =>
          k2 s2
      else
        k2 s1
    else
      k1 s1
def ref13_Line (p_x : Step) : Option (List UInt8) :=
  joinK (fun (s5 : (List UInt8)) =>
    joinK (fun (s8 : (List UInt8)) =>
        some s8) fun k3 =>
      if (decide (p_x.wait > 0)) = true then
      (ref03_Digits p_x.wait).bind fun r2 =>
        (catO [32] r2).bind fun s6 =>
        (catO s5 s6).bind fun s7 =>
        k3 s7
    else
      k3 s5) fun k1 =>
  ref13_Line_loop1 p_x k1 (Int.toNat ((p_x.strokes.length : Int) - 0) + 1) [] 0

def ref13_Lines_loop1 (p_l : (List Step)) (k1 : ((List UInt8) → Option (List UInt8))) : Nat → (List UInt8) → Int → Option (List UInt8)
  | 0, _, _ => none
  | m1 + 1, s1, i1 => if (decide (i1 < (p_l.length : Int))) = true then
      joinK (fun (s3 : (List UInt8)) =>
          (at? p_l i1).bind fun x1 =>
            (ref13_Line x1).bind fun r1 =>
            (catO s3 r1).bind fun s4 =>
            ref13_Lines_loop1 p_l k1 m1 s4 (IntKind.wrap .i64 (i1 + 1))) fun k2 =>
        if (decide (i1 > 0)) = true then
        (catO s1 [59, 32]).bind fun s2 =>
          k2 s2
      else
        k2 s1
    else
      k1 s1
def ref13_Lines (p_l : (List Step)) : Option (List UInt8) :=
  joinK (fun (s5 : (List UInt8)) =>
    some s5) fun k1 =>
  ref13_Lines_loop1 p_l k1 (Int.toNat ((p_l.length : Int) - 0) + 1) [] 0

def ref13_SameEnds_loop1 (p_a : (List Bool)) (p_b : (List Bool)) (k1 : (Option Bool)) : Nat → Int → Option Bool
  | 0, _ => none
  | m1 + 1, i1 => if (decide (i1 < (p_a.length : Int))) = true then
      (at? p_a i1).bind fun x1 =>
        (at? p_b i1).bind fun x2 =>
        if (!(x1 == x2)) = true then
        some false
      else
        ref13_SameEnds_loop1 p_a p_b k1 m1 (IntKind.wrap .i64 (i1 + 1))
    else
      k1
def ref13_SameEnds (p_a : (List Bool)) (p_b : (List Bool)) : Option Bool :=
  if ((p_a.length : Int) != (p_b.length : Int)) = true then
  some false
  else
  joinK (some true) fun k1 =>
    ref13_SameEnds_loop1 p_a p_b k1 (Int.toNat ((p_a.length : Int) - 0) + 1) 0

def slices_Index_api_Strokeapi_Stroke_loop1 (p_s : (List Stroke)) (p_v : Stroke) (k1 : (Option Int)) : Nat → Int → Option Int
  | 0, _ => none
  | m1 + 1, i1 => if (decide (i1 < (p_s.length : Int))) = true then
      (at? p_s i1).bind fun x1 =>
        if (p_v == x1) = true then
        some i1
      else
        slices_Index_api_Strokeapi_Stroke_loop1 p_s p_v k1 m1 (IntKind.wrap .i64 (i1 + 1))
    else
      k1
def slices_Index_api_Strokeapi_Stroke (p_s : (List Stroke)) (p_v : Stroke) : Option Int :=
  joinK (some (-1)) fun k1 =>
  slices_Index_api_Strokeapi_Stroke_loop1 p_s p_v k1 (Int.toNat ((p_s.length : Int) - 0) + 1) 0

def slices_Contains_api_Strokeapi_Stroke (p_s : (List Stroke)) (p_v : Stroke) : Option Bool :=
  (slices_Index_api_Strokeapi_Stroke p_s p_v).bind fun r1 =>
  some (decide (r1 ≥ 0))

def sequence_Accepts_loop2 (l1 : (List Stroke)) (x1 : Step) (k3 : (Option (Bool × Int))) : Nat → Int → Option (Bool × Int)
  | 0, _ => none
  | m2 + 1, i2 => if (decide (i2 < (x1.strokes.length : Int))) = true then
      (at? x1.strokes i2).bind fun x2 =>
        (part? l1 0 (x1.strokes.length : Int)).bind fun l2 =>
        (slices_Contains_api_Strokeapi_Stroke l2 x2).bind fun r2 =>
        if (!r2) = true then
        some (false, 0)
      else
        sequence_Accepts_loop2 l1 x1 k3 m2 (IntKind.wrap .i64 (i2 + 1))
    else
      k3
def sequence_Accepts_loop1 (p_s : Sequence) (k1 : ((List Stroke) → Option (Bool × Int))) : Nat → (List Stroke) → Int → Option (Bool × Int)
  | 0, _, _ => none
  | m1 + 1, l1, i1 => if (decide (i1 < (p_s.steps.length : Int))) = true then
      joinK (fun (l4 : (List Stroke)) =>
          sequence_Accepts_loop1 p_s k1 m1 l4 (IntKind.wrap .i64 (i1 + 1))) fun k2 =>
        (at? p_s.steps i1).bind fun x1 =>
        if (decide ((l1.length : Int) < (x1.strokes.length : Int))) = true then
        some (false, 0)
      else
        joinK ((part? l1 (x1.strokes.length : Int) (l1.length : Int)).bind fun l3 =>
          k2 l3) fun k3 =>
          sequence_Accepts_loop2 l1 x1 k3 (Int.toNat ((x1.strokes.length : Int) - 0) + 1) 0
    else
      k1 l1
def sequence_Accepts (p_s : Sequence) (p_word : (List Stroke)) : Option (Bool × Int) :=
  (sequence_Check p_s).bind fun r1 =>
  if (r1 != 0) = true then
  some (false, r1)
  else
  joinK (fun (l5 : (List Stroke)) =>
      some (((l5.length : Int) == 0), 0)) fun k1 =>
    sequence_Accepts_loop1 p_s k1 (Int.toNat ((p_s.steps.length : Int) - 0) + 1) p_word 0

def slices_Index_sequence_endssequence_ends_loop1 (p_s : (List Ends6)) (p_v : Ends6) (k1 : (Option Int)) : Nat → Int → Option Int
  | 0, _ => none
  | m1 + 1, i1 => if (decide (i1 < (p_s.length : Int))) = true then
      (at? p_s i1).bind fun x1 =>
        if (p_v == x1) = true then
        some i1
      else
        slices_Index_sequence_endssequence_ends_loop1 p_s p_v k1 m1 (IntKind.wrap .i64 (i1 + 1))
    else
      k1
def slices_Index_sequence_endssequence_ends (p_s : (List Ends6)) (p_v : Ends6) : Option Int :=
  joinK (some (-1)) fun k1 =>
  slices_Index_sequence_endssequence_ends_loop1 p_s p_v k1 (Int.toNat ((p_s.length : Int) - 0) + 1) 0

def slices_Contains_sequence_endssequence_ends (p_s : (List Ends6)) (p_v : Ends6) : Option Bool :=
  (slices_Index_sequence_endssequence_ends p_s p_v).bind fun r1 =>
  some (decide (r1 ≥ 0))

def sequence_Repeats_loop1 (p_s : Sequence) (k1 : (Bool → Bool → Bool → Bool → Bool → Bool → (List Ends6) → (List Int) → Option ((List Int) × Int))) : Nat → Int → Bool → Bool → Bool → Bool → Bool → Bool → (List Ends6) → (List Int) → Option ((List Int) × Int)
  | 0, _, _, _, _, _, _, _, _, _ => none
  | m1 + 1, i1, c1, c2, c3, c4, c5, c6, l2, l3 => if (decide (i1 < (p_s.steps.length : Int))) = true then
      (at? p_s.steps i1).bind fun x1 =>
        joinK (fun (l5 : (List Int)) =>
          (appO 6 l2 ([(Ends6.mk c1 c2 c3 c4 c5 c6)] : List Ends6)).bind fun _ =>
            (sequence_ends_behind (Ends6.mk c1 c2 c3 c4 c5 c6) x1).bind fun r3 =>
            sequence_Repeats_loop1 p_s k1 m1 (IntKind.wrap .i64 (i1 + 1)) r3.a0 r3.a1 r3.a2 r3.a3 r3.a4 r3.a5 (l2 ++ ([(Ends6.mk c1 c2 c3 c4 c5 c6)] : List Ends6)) l5) fun k2 =>
        (if (decide (i1 < (p_s.steps.length : Int))) = true then (slices_Contains_sequence_endssequence_ends l2 (Ends6.mk c1 c2 c3 c4 c5 c6)).bind fun r2 =>
        some r2 else some false).bind fun c7 =>
        if c7 = true then
        (appO 8 l3 ([i1] : List Int)).bind fun _ =>
          k2 (l3 ++ ([i1] : List Int))
      else
        k2 l3
    else
      k1 c1 c2 c3 c4 c5 c6 l2 l3
def sequence_Repeats (p_s : Sequence) : Option ((List Int) × Int) :=
  (sequence_Check p_s).bind fun r1 =>
  if (r1 != 0) = true then
  some ([], r1)
  else
  joinK (fun (c8 : Bool) (c9 : Bool) (c10 : Bool) (c11 : Bool) (c12 : Bool) (c13 : Bool) (l7 : (List Ends6)) (l8 : (List Int)) =>
      joinK (fun (l10 : (List Int)) =>
          (appO 6 l7 ([(Ends6.mk c8 c9 c10 c11 c12 c13)] : List Ends6)).bind fun _ =>
            some (l10, 0)) fun k3 =>
        (if (decide ((p_s.steps.length : Int) < (p_s.steps.length : Int))) = true then (slices_Contains_sequence_endssequence_ends l7 (Ends6.mk c8 c9 c10 c11 c12 c13)).bind fun r4 =>
        some r4 else some false).bind fun c14 =>
        if c14 = true then
        (appO 8 l8 ([(p_s.steps.length : Int)] : List Int)).bind fun _ =>
          k3 (l8 ++ ([(p_s.steps.length : Int)] : List Int))
      else
        k3 l8) fun k1 =>
    sequence_Repeats_loop1 p_s k1 (Int.toNat ((p_s.steps.length : Int) - 0) + 1) 0 false false false false false false ([] : List Ends6) ([] : List Int)

def sequence_Words_loop2 (k2 : (Int → Option (Int × Int))) (x1 : Step) : Nat → Int → Int → Option (Int × Int)
  | 0, _, _ => none
  | m2 + 1, i3, i4 => if (decide (i4 < (x1.strokes.length : Int))) = true then
      if (decide ((IntKind.wrap .i64 (i3 * (IntKind.wrap .i64 (i4 + 1)))) > 1048576)) = true then
        some (0, 12)
      else
        sequence_Words_loop2 k2 x1 m2 (IntKind.wrap .i64 (i3 * (IntKind.wrap .i64 (i4 + 1)))) (IntKind.wrap .i64 (i4 + 1))
    else
      k2 i3
def sequence_Words_loop1 (p_s : Sequence) (k1 : (Int → Option (Int × Int))) : Nat → Int → Int → Option (Int × Int)
  | 0, _, _ => none
  | m1 + 1, i1, i2 => if (decide (i2 < (p_s.steps.length : Int))) = true then
      joinK (fun (i5 : Int) =>
          sequence_Words_loop1 p_s k1 m1 i5 (IntKind.wrap .i64 (i2 + 1))) fun k2 =>
        (at? p_s.steps i2).bind fun x1 =>
        sequence_Words_loop2 k2 x1 (Int.toNat ((x1.strokes.length : Int) - 0) + 1) i1 0
    else
      k1 i1
def sequence_Words (p_s : Sequence) : Option (Int × Int) :=
  (sequence_Check p_s).bind fun r1 =>
  if (r1 != 0) = true then
  some (0, r1)
  else
  joinK (fun (i6 : Int) =>
      some (i6, 0)) fun k1 =>
    sequence_Words_loop1 p_s k1 (Int.toNat ((p_s.steps.length : Int) - 0) + 1) 1 0

def sequence_Ends_loop1 (p_s : Sequence) (p_k : Int) (k1 : (Bool → Bool → Bool → Bool → Bool → Bool → Option ((List Bool) × Int))) : Nat → Int → Bool → Bool → Bool → Bool → Bool → Bool → Option ((List Bool) × Int)
  | 0, _, _, _, _, _, _, _ => none
  | m1 + 1, i1, c1, c2, c3, c4, c5, c6 => if (decide (i1 < (p_s.steps.length : Int))) = true then
      (at? p_s.steps i1).bind fun x1 =>
        if (i1 == p_k) = true then
        (part? ([c1, c2, c3, c4, c5, c6] : List Bool) 0 p_s.actuators).bind fun l2 =>
          (appO 1 ([] : List Bool) l2).bind fun _ =>
          some (l2, 0)
      else
        (sequence_ends_behind (Ends6.mk c1 c2 c3 c4 c5 c6) x1).bind fun r2 =>
          sequence_Ends_loop1 p_s p_k k1 m1 (IntKind.wrap .i64 (i1 + 1)) r2.a0 r2.a1 r2.a2 r2.a3 r2.a4 r2.a5
    else
      k1 c1 c2 c3 c4 c5 c6
def sequence_Ends (p_s : Sequence) (p_k : Int) : Option ((List Bool) × Int) :=
  (sequence_Check p_s).bind fun r1 =>
  if (r1 != 0) = true then
  some ([], r1)
  else
  joinK (fun (c7 : Bool) (c8 : Bool) (c9 : Bool) (c10 : Bool) (c11 : Bool) (c12 : Bool) =>
      if ((p_s.steps.length : Int) == p_k) = true then
        (part? ([c7, c8, c9, c10, c11, c12] : List Bool) 0 p_s.actuators).bind fun l4 =>
          (appO 1 ([] : List Bool) l4).bind fun _ =>
          some (l4, 0)
      else
        some ([], 2)) fun k1 =>
    sequence_Ends_loop1 p_s p_k k1 (Int.toNat ((p_s.steps.length : Int) - 0) + 1) 0 false false false false false false

def slices_Equal_intint_loop1 (p_s1 : (List Int)) (p_s2 : (List Int)) (k1 : (Option Bool)) : Nat → Int → Option Bool
  | 0, _ => none
  | m1 + 1, i1 => if (decide (i1 < (p_s1.length : Int))) = true then
      (at? p_s1 i1).bind fun x1 =>
        (at? p_s2 i1).bind fun x2 =>
        if (x1 != x2) = true then
        some false
      else
        slices_Equal_intint_loop1 p_s1 p_s2 k1 m1 (IntKind.wrap .i64 (i1 + 1))
    else
      k1
def slices_Equal_intint (p_s1 : (List Int)) (p_s2 : (List Int)) : Option Bool :=
  if ((p_s1.length : Int) != (p_s2.length : Int)) = true then
  some false
  else
  joinK (some true) fun k1 =>
    slices_Equal_intint_loop1 p_s1 p_s2 k1 (Int.toNat ((p_s1.length : Int) - 0) + 1) 0

def sequence_Parse_loop2 (k2 : (Int → Option (Sequence × Int × Int))) (x1 : Step) : Nat → Int → Int → Option (Sequence × Int × Int)
  | 0, _, _ => none
  | m2 + 1, i3, i4 => if (decide (i3 < (x1.strokes.length : Int))) = true then
      (at? x1.strokes i3).bind fun x2 =>
        sequence_Parse_loop2 k2 x1 m2 (IntKind.wrap .i64 (i3 + 1)) (if (IntKind.wrap .i64 (x2.actuator + 1)) > i4 then (IntKind.wrap .i64 (x2.actuator + 1)) else i4)
    else
      k2 i4
def sequence_Parse_loop1 (r1 : ((List Step) × Int × Int)) (k1 : (Int → Option (Sequence × Int × Int))) : Nat → Int → Int → Option (Sequence × Int × Int)
  | 0, _, _ => none
  | m1 + 1, i1, i2 => if (decide (i1 < (r1.1.length : Int))) = true then
      joinK (fun (i5 : Int) =>
          sequence_Parse_loop1 r1 k1 m1 (IntKind.wrap .i64 (i1 + 1)) i5) fun k2 =>
        (at? r1.1 i1).bind fun x1 =>
        sequence_Parse_loop2 k2 x1 (Int.toNat ((x1.strokes.length : Int) - 0) + 1) 0 i2
    else
      k1 i2
def sequence_Parse (p_text : (List UInt8)) : Option (Sequence × Int × Int) :=
  (stroke_Parse p_text).bind fun r1 =>
  if (r1.2.2 != 0) = true then
  some ((Sequence.mk 0 []), r1.2.1, r1.2.2)
  else
  if ((r1.1.length : Int) == 0) = true then
    some ((Sequence.mk 0 []), 0, 13)
  else
    joinK (fun (i6 : Int) =>
        (sequence_Check (Sequence.mk i6 r1.1)).bind fun r2 =>
          if (r2 != 0) = true then
          some ((Sequence.mk 0 []), 0, r2)
        else
          some ((Sequence.mk i6 r1.1), 0, 0)) fun k1 =>
      sequence_Parse_loop1 r1 k1 (Int.toNat ((r1.1.length : Int) - 0) + 1) 0 0

def law14_awake  : Option Bool :=
  (sequence_Parse [65, 43, 59, 32, 66, 43, 59, 32, 66, 45, 59, 32, 65, 45]).bind fun r1 =>
  (sequence_Ends r1.1 2).bind fun r2 =>
  (sequence_Repeats r1.1).bind fun r3 =>
  (if ((IntKind.wrap .i64 ((IntKind.wrap .i64 (r1.2.2 + r2.2)) + r3.2)) != 0) = true then some true else (slices_Equal_boolbool r2.1 ([true, true] : List Bool)).bind fun r4 =>
  some (!r4)).bind fun c1 =>
  (if c1 = true then some true else (slices_Equal_intint r3.1 ([3] : List Int)).bind fun r5 =>
  some (!r5)).bind fun c2 =>
  if c2 = true then
  some false
  else
  (sequence_Parse [65, 43, 32, 66, 43, 59, 32, 65, 45, 32, 66, 45]).bind fun r6 =>
    (sequence_Words r6.1).bind fun r7 =>
    (sequence_Accepts r6.1 ([(Stroke.mk 0 true), (Stroke.mk 1 true), (Stroke.mk 1 false), (Stroke.mk 0 false)] : List Stroke)).bind fun r8 =>
    (sequence_Parse [65, 43, 59, 32, 66, 43, 59, 32, 65, 45]).bind fun r9 =>
    (sequence_Parse [65, 43, 59, 32, 66, 45]).bind fun r10 =>
    (if ((((((IntKind.wrap .i64 ((IntKind.wrap .i64 (r6.2.2 + r7.2)) + r8.2)) == 0) && (r7.1 == 4)) && r8.1) && (r9.2.2 == 9)) && (r10.2.2 == 14)) = true then (sequence_Check (Sequence.mk 3 r1.1.steps)).bind fun r11 =>
    some (r11 == 13) else some false).bind fun c3 =>
    some c3

def ref14_count_loop1 (p_l : (List Stroke)) (p_x : Stroke) (k1 : (Int → Option Int)) : Nat → Int → Int → Option Int
  | 0, _, _ => none
  | m1 + 1, i1, i2 => if (decide (i2 < (p_l.length : Int))) = true then
      joinK (fun (i3 : Int) =>
          ref14_count_loop1 p_l p_x k1 m1 i3 (IntKind.wrap .i64 (i2 + 1))) fun k2 =>
        (at? p_l i2).bind fun x1 =>
        if (x1 == p_x) = true then
        k2 (IntKind.wrap .i64 (i1 + 1))
      else
        k2 i1
    else
      k1 i1
def ref14_count (p_l : (List Stroke)) (p_x : Stroke) : Option Int :=
  joinK (fun (i4 : Int) =>
    some i4) fun k1 =>
  ref14_count_loop1 p_l p_x k1 (Int.toNat ((p_l.length : Int) - 0) + 1) 0 0

def ref14_Takes_loop2 (p_word : (List Stroke)) (i1 : Int) (x1 : Step) (k3 : (Option Bool)) : Nat → Int → Option Bool
  | 0, _ => none
  | m2 + 1, i3 => if (decide (i3 < (x1.strokes.length : Int))) = true then
      (part? p_word i1 (IntKind.wrap .i64 (i1 + (x1.strokes.length : Int)))).bind fun l1 =>
        (at? x1.strokes i3).bind fun x2 =>
        (ref14_count l1 x2).bind fun r1 =>
        if (r1 != 1) = true then
        some false
      else
        ref14_Takes_loop2 p_word i1 x1 k3 m2 (IntKind.wrap .i64 (i3 + 1))
    else
      k3
def ref14_Takes_loop1 (p_s : Sequence) (p_word : (List Stroke)) (k1 : (Int → Option Bool)) : Nat → Int → Int → Option Bool
  | 0, _, _ => none
  | m1 + 1, i1, i2 => if (decide (i2 < (p_s.steps.length : Int))) = true then
      joinK (fun (i4 : Int) =>
          ref14_Takes_loop1 p_s p_word k1 m1 i4 (IntKind.wrap .i64 (i2 + 1))) fun k2 =>
        (at? p_s.steps i2).bind fun x1 =>
        if (decide ((IntKind.wrap .i64 (i1 + (x1.strokes.length : Int))) > (p_word.length : Int))) = true then
        some false
      else
        joinK (k2 (IntKind.wrap .i64 (i1 + (x1.strokes.length : Int)))) fun k3 =>
          ref14_Takes_loop2 p_word i1 x1 k3 (Int.toNat ((x1.strokes.length : Int) - 0) + 1) 0
    else
      k1 i1
def ref14_Takes (p_s : Sequence) (p_word : (List Stroke)) : Option Bool :=
  joinK (fun (i5 : Int) =>
    some (i5 == (p_word.length : Int))) fun k1 =>
  ref14_Takes_loop1 p_s p_word k1 (Int.toNat ((p_s.steps.length : Int) - 0) + 1) 0 0

def ref14_Accepts (p_s : Sequence) (p_word : (List Stroke)) : Option (Bool × Int) :=
  (ref14_Check p_s).bind fun r1 =>
  if (r1 != 0) = true then
  some (false, r1)
  else
  (ref14_Takes p_s p_word).bind fun r2 =>
    some (r2, 0)

def law14_SequenceAccepts (p_s : Sequence) (p_word : (List Stroke)) : Option Bool :=
  (ref14_Few p_s).bind fun r1 =>
  if ((!r1) || (decide ((p_word.length : Int) > 1000))) = true then
  (law14_awake).bind fun r2 =>
    some r2
  else
  (sequence_Accepts p_s p_word).bind fun r3 =>
    (ref14_Accepts p_s p_word).bind fun r4 =>
    (if ((r3.1 == r4.1) && (r3.2 == r4.2)) = true then (law14_awake).bind fun r5 =>
    some r5 else some false).bind fun c1 =>
    some c1

def law14_right (p_s : Sequence) : Option Bool :=
  (ref14_Few p_s).bind fun r1 =>
  (if r1 = true then (ref14_Check p_s).bind fun r2 =>
  some (r2 == 0) else some false).bind fun c1 =>
  some c1

def sequence_Word_loop1 (p_s : Sequence) (k1 : ((List Stroke) → Option ((List Stroke) × Int))) : Nat → Int → (List Stroke) → Option ((List Stroke) × Int)
  | 0, _, _ => none
  | m1 + 1, i1, l1 => if (decide (i1 < (p_s.steps.length : Int))) = true then
      (at? p_s.steps i1).bind fun x1 =>
        (appO 16 l1 x1.strokes).bind fun _ =>
        sequence_Word_loop1 p_s k1 m1 (IntKind.wrap .i64 (i1 + 1)) (l1 ++ x1.strokes)
    else
      k1 l1
def sequence_Word (p_s : Sequence) : Option ((List Stroke) × Int) :=
  (sequence_Check p_s).bind fun r1 =>
  if (r1 != 0) = true then
  some ([], r1)
  else
  joinK (fun (l3 : (List Stroke)) =>
      some (l3, 0)) fun k1 =>
    sequence_Word_loop1 p_s k1 (Int.toNat ((p_s.steps.length : Int) - 0) + 1) 0 ([] : List Stroke)

def law14_SequenceWords_loop1 (p_s : Sequence) (p_which : Int) (r3 : ((List Stroke) × Int)) (k1 : (Bool → Option Bool)) : Nat → Int → Bool → Int → Option Bool
  | 0, _, _, _ => none
  | m1 + 1, i1, c1, i2 => if (decide (i2 < (p_s.steps.length : Int))) = true then
      (at? p_s.steps i2).bind fun x1 =>
        law14_SequenceWords_loop1 p_s p_which r3 k1 m1 (IntKind.wrap .i64 (i1 + (x1.strokes.length : Int))) (c1 || ((IntKind.wrap .i64 (i1 + (x1.strokes.length : Int))) == (IntKind.wrap .i64 ((Int.tmod (IntKind.wrap .i64 p_which) (IntKind.wrap .i64 ((r3.1.length : Int) - 1))) + 1)))) (IntKind.wrap .i64 (i2 + 1))
    else
      k1 c1
def law14_SequenceWords (p_s : Sequence) (p_which : Int) : Option Bool :=
  (law14_right p_s).bind fun r1 =>
  if (!r1) = true then
  (law14_awake).bind fun r2 =>
    some r2
  else
  (sequence_Word p_s).bind fun r3 =>
    (sequence_Accepts p_s r3.1).bind fun r4 =>
    if ((((IntKind.wrap .i64 (r3.2 + r4.2)) != 0) || (!r4.1)) || (decide ((r3.1.length : Int) < 2))) = true then
    some false
  else
    (guardO ((IntKind.wrap .i64 ((r3.1.length : Int) - 1)) != 0)).bind fun _ =>
      joinK (fun (c2 : Bool) =>
        (appO 16 ([] : List Stroke) r3.1).bind fun _ =>
          joinK (fun (l2 : (List Stroke)) =>
            (sequence_Accepts p_s l2).bind fun r5 =>
              (part? r3.1 0 (Int.tmod (IntKind.wrap .i64 p_which) (IntKind.wrap .i64 ((r3.1.length : Int) - 1)))).bind fun l3 =>
              (sequence_Accepts p_s l3).bind fun r6 =>
              joinK (fun (c3 : Bool) (i3 : Int) =>
                (if (((((IntKind.wrap .i64 ((IntKind.wrap .i64 (r5.2 + r6.2)) + i3)) == 0) && (r5.1 == (!c2))) && (!r6.1)) && (!c3)) = true then (law14_awake).bind fun r9 =>
                  some r9 else some false).bind fun c4 =>
                  some c4) fun k3 =>
              (at? r3.1 0).bind fun x10 =>
              (appO 16 ([] : List Stroke) r3.1).bind fun _ =>
              (appO 16 r3.1 ([x10] : List Stroke)).bind fun _ =>
              (sequence_Accepts p_s (r3.1 ++ ([x10] : List Stroke))).bind fun r7 =>
              k3 r7.1 r7.2) fun k2 =>
          (at? r3.1 (IntKind.wrap .i64 ((Int.tmod (IntKind.wrap .i64 p_which) (IntKind.wrap .i64 ((r3.1.length : Int) - 1))) + 1))).bind fun x2 =>
          (at? r3.1 (Int.tmod (IntKind.wrap .i64 p_which) (IntKind.wrap .i64 ((r3.1.length : Int) - 1)))).bind fun x3 =>
          (at? (List.set r3.1 (Int.toNat (Int.tmod (IntKind.wrap .i64 p_which) (IntKind.wrap .i64 ((r3.1.length : Int) - 1)))) x2) (IntKind.wrap .i64 ((Int.tmod (IntKind.wrap .i64 p_which) (IntKind.wrap .i64 ((r3.1.length : Int) - 1))) + 1))).bind fun x4 =>
          k2 (List.set (List.set r3.1 (Int.toNat (Int.tmod (IntKind.wrap .i64 p_which) (IntKind.wrap .i64 ((r3.1.length : Int) - 1)))) x2) (Int.toNat (IntKind.wrap .i64 ((Int.tmod (IntKind.wrap .i64 p_which) (IntKind.wrap .i64 ((r3.1.length : Int) - 1))) + 1))) x3)) fun k1 =>
      law14_SequenceWords_loop1 p_s p_which r3 k1 (Int.toNat ((p_s.steps.length : Int) - 0) + 1) 0 false 0

def slices_IsSorted_intint_loop1 (p_x : (List Int)) (k1 : (Option Bool)) : Nat → Int → Option Bool
  | 0, _ => none
  | m1 + 1, i1 => if (decide (i1 > 0)) = true then
      (at? p_x i1).bind fun x1 =>
        (at? p_x (IntKind.wrap .i64 (i1 - 1))).bind fun x2 =>
        (cmp_Less_int x1 x2).bind fun r1 =>
        if r1 = true then
        some false
      else
        slices_IsSorted_intint_loop1 p_x k1 m1 (IntKind.wrap .i64 (i1 - 1))
    else
      k1
def slices_IsSorted_intint (p_x : (List Int)) : Option Bool :=
  joinK (some true) fun k1 =>
  slices_IsSorted_intint_loop1 p_x k1 (p_x.length + 1) (IntKind.wrap .i64 ((p_x.length : Int) - 1))

def ref14_Behind_loop1 (p_s : Sequence) (p_k : Int) (k1 : ((List Bool) → Option (List Bool))) : Nat → (List Bool) → Int → Option (List Bool)
  | 0, _, _ => none
  | m1 + 1, l1, i1 => if (decide (i1 < p_k)) = true then
      (at? p_s.steps i1).bind fun x1 =>
        (ref13_After x1 l1).bind fun r1 =>
        ref14_Behind_loop1 p_s p_k k1 m1 r1 (IntKind.wrap .i64 (i1 + 1))
    else
      k1 l1
def ref14_Behind (p_s : Sequence) (p_k : Int) : Option (List Bool) :=
  (guardO ((decide (0 ≤ p_s.actuators) && decide (p_s.actuators * 1 ≤ 140737488355328)) && decide (p_s.actuators ≤ 4611686018427387904))).bind fun _ =>
  joinK (fun (l2 : (List Bool)) =>
    some l2) fun k1 =>
  ref14_Behind_loop1 p_s p_k k1 (Int.toNat (p_k - 0) + 1) (List.replicate (Int.toNat p_s.actuators) false) 0

def slices_Index_intint_loop1 (p_s : (List Int)) (p_v : Int) (k1 : (Option Int)) : Nat → Int → Option Int
  | 0, _ => none
  | m1 + 1, i1 => if (decide (i1 < (p_s.length : Int))) = true then
      (at? p_s i1).bind fun x1 =>
        if (p_v == x1) = true then
        some i1
      else
        slices_Index_intint_loop1 p_s p_v k1 m1 (IntKind.wrap .i64 (i1 + 1))
    else
      k1
def slices_Index_intint (p_s : (List Int)) (p_v : Int) : Option Int :=
  joinK (some (-1)) fun k1 =>
  slices_Index_intint_loop1 p_s p_v k1 (Int.toNat ((p_s.length : Int) - 0) + 1) 0

def slices_Contains_intint (p_s : (List Int)) (p_v : Int) : Option Bool :=
  (slices_Index_intint p_s p_v).bind fun r1 =>
  some (decide (r1 ≥ 0))

def law14_SequenceRepeats_loop2 (l1 : (List (List Bool))) (r5 : ((List Bool))) (k2 : (Bool → Option Bool)) (k3 : (Option Bool)) : Nat → Int → Option Bool
  | 0, _ => none
  | m2 + 1, i2 => if (decide (i2 < (l1.length : Int))) = true then
      (at? l1 i2).bind fun x1 =>
        (ref13_SameEnds x1 r5).bind fun r6 =>
        if r6 = true then
        k2 (decide (i2 ≥ 0))
      else
        law14_SequenceRepeats_loop2 l1 r5 k2 k3 m2 (IntKind.wrap .i64 (i2 + 1))
    else
      k3
def law14_SequenceRepeats_loop1 (p_s : Sequence) (r3 : ((List Int) × Int)) (k1 : (Option Bool)) : Nat → Int → (List (List Bool)) → Option Bool
  | 0, _, _ => none
  | m1 + 1, i1, l1 => if (decide (i1 < (p_s.steps.length : Int))) = true then
      (ref14_Behind p_s i1).bind fun r5 =>
        joinK (fun (c2 : Bool) =>
          (slices_Contains_intint r3.1 i1).bind fun r7 =>
            if (!(c2 == r7)) = true then
            some false
          else
            (appO 24 l1 ([r5] : List (List Bool))).bind fun _ =>
              law14_SequenceRepeats_loop1 p_s r3 k1 m1 (IntKind.wrap .i64 (i1 + 1)) (l1 ++ ([r5] : List (List Bool)))) fun k2 =>
        joinK (k2 (decide (((-1) : Int) ≥ 0))) fun k3 =>
        law14_SequenceRepeats_loop2 l1 r5 k2 k3 (Int.toNat ((l1.length : Int) - 0) + 1) 0
    else
      k1
def law14_SequenceRepeats_loop3 (p_s : Sequence) (r3 : ((List Int) × Int)) (k4 : (Option Bool)) : Nat → Int → Option Bool
  | 0, _ => none
  | m3 + 1, i3 => if (decide (i3 < (r3.1.length : Int))) = true then
      (at? r3.1 i3).bind fun x2 =>
        if ((decide (x2 < 1)) || (decide (x2 ≥ (p_s.steps.length : Int)))) = true then
        (if (!(decide (i3 ≥ 0))) = true then (law14_awake).bind fun r8 =>
          some r8 else some false).bind fun c3 =>
          some c3
      else
        law14_SequenceRepeats_loop3 p_s r3 k4 m3 (IntKind.wrap .i64 (i3 + 1))
    else
      k4
def law14_SequenceRepeats (p_s : Sequence) : Option Bool :=
  (law14_right p_s).bind fun r1 =>
  if (!r1) = true then
  (law14_awake).bind fun r2 =>
    some r2
  else
  (sequence_Repeats p_s).bind fun r3 =>
    (if (r3.2 != 0) = true then some true else (slices_IsSorted_intint r3.1).bind fun r4 =>
    some (!r4)).bind fun c1 =>
    if c1 = true then
    some false
  else
    joinK (joinK ((if (!(decide (((-1) : Int) ≥ 0))) = true then (law14_awake).bind fun r9 =>
      some r9 else some false).bind fun c4 =>
      some c4) fun k4 =>
      law14_SequenceRepeats_loop3 p_s r3 k4 (Int.toNat ((r3.1.length : Int) - 0) + 1) 0) fun k1 =>
      law14_SequenceRepeats_loop1 p_s r3 k1 (Int.toNat ((p_s.steps.length : Int) - 0) + 1) 0 ([] : List (List Bool))

def ref14_First_loop1 (p_s : Sequence) (k1 : ((List Stroke) → Option (List Stroke))) : Nat → Int → (List Stroke) → Option (List Stroke)
  | 0, _, _ => none
  | m1 + 1, i1, l1 => if (decide (i1 < (p_s.steps.length : Int))) = true then
      (at? p_s.steps i1).bind fun x1 =>
        (appO 16 l1 x1.strokes).bind fun _ =>
        ref14_First_loop1 p_s k1 m1 (IntKind.wrap .i64 (i1 + 1)) (l1 ++ x1.strokes)
    else
      k1 l1
def ref14_First (p_s : Sequence) : Option (List Stroke) :=
  joinK (fun (l3 : (List Stroke)) =>
    some l3) fun k1 =>
  ref14_First_loop1 p_s k1 (Int.toNat ((p_s.steps.length : Int) - 0) + 1) 0 ([] : List Stroke)

def ref14_Word (p_s : Sequence) : Option ((List Stroke) × Int) :=
  (ref14_Check p_s).bind fun r1 =>
  if (r1 != 0) = true then
  some ([], r1)
  else
  (ref14_First p_s).bind fun r2 =>
    some (r2, 0)

def ref14_Words_loop2 (p_s : Sequence) (i2 : Int) (k3 : (Int → Option (Int × Int))) : Nat → Int → Int → Option (Int × Int)
  | 0, _, _ => none
  | m2 + 1, i3, i4 => (at? p_s.steps i2).bind fun x1 =>
      if (decide (i4 ≤ (x1.strokes.length : Int))) = true then
      ref14_Words_loop2 p_s i2 k3 m2 (IntKind.wrap .i64 (i3 * i4)) (IntKind.wrap .i64 (i4 + 1))
    else
      k3 i3
def ref14_Words_loop1 (p_s : Sequence) (k1 : (Int → Option (Int × Int))) : Nat → Int → Int → Option (Int × Int)
  | 0, _, _ => none
  | m1 + 1, i1, i2 => if (decide (i2 < (p_s.steps.length : Int))) = true then
      joinK (fun (i6 : Int) =>
          ref14_Words_loop1 p_s k1 m1 i6 (IntKind.wrap .i64 (i2 + 1))) fun k2 =>
        joinK (fun (i5 : Int) =>
          if (decide (i5 > 1048576)) = true then
            some (0, 12)
          else
            k2 i5) fun k3 =>
        ref14_Words_loop2 p_s i2 k3 42 i1 2
    else
      k1 i1
def ref14_Words (p_s : Sequence) : Option (Int × Int) :=
  (ref14_Check p_s).bind fun r1 =>
  if (r1 != 0) = true then
  some (0, r1)
  else
  joinK (fun (i7 : Int) =>
      some (i7, 0)) fun k1 =>
    ref14_Words_loop1 p_s k1 (p_s.steps.length + 1) 1 0

def sequence_Same (p_a : Sequence) (p_b : Sequence) : Option Bool :=
  (if (p_a.actuators == p_b.actuators) = true then (slices_EqualFunc_api_Step_api_Stepapi_Stepapi_Step_stroke_Same p_a.steps p_b.steps).bind fun r1 =>
  some r1 else some false).bind fun c1 =>
  some c1

def ref14_Same (p_a : Sequence) (p_b : Sequence) : Option Bool :=
  (if (p_a.actuators == p_b.actuators) = true then (ref13_SameSteps p_a.steps p_b.steps).bind fun r1 =>
  some r1 else some false).bind fun c1 =>
  some c1

def law14_SequenceChecks (p_s : Sequence) (p_t : Sequence) : Option Bool :=
  (ref14_Few p_s).bind fun r1 =>
  (if (!r1) = true then some true else (ref14_Few p_t).bind fun r2 =>
  some (!r2)).bind fun c1 =>
  if c1 = true then
  (law14_awake).bind fun r3 =>
    some r3
  else
  (sequence_Word p_s).bind fun r4 =>
    (ref14_Word p_s).bind fun r5 =>
    (sequence_Words p_s).bind fun r6 =>
    (ref14_Words p_s).bind fun r7 =>
    (sequence_Check p_s).bind fun r8 =>
    (ref14_Check p_s).bind fun r9 =>
    (if (r8 == r9) = true then (slices_Equal_api_Strokeapi_Stroke r4.1 r5.1).bind fun r10 =>
    some r10 else some false).bind fun c2 =>
    (if (((c2 && (r4.2 == r5.2)) && (r6.1 == r7.1)) && (r6.2 == r7.2)) = true then (sequence_Same p_s p_t).bind fun r11 =>
    (ref14_Same p_s p_t).bind fun r12 =>
    some (r11 == r12) else some false).bind fun c3 =>
    (if c3 = true then (sequence_Same p_s p_s).bind fun r13 =>
    some r13 else some false).bind fun c4 =>
    (if c4 = true then (law14_awake).bind fun r14 =>
    some r14 else some false).bind fun c5 =>
    some c5

def ref14_Ends (p_s : Sequence) (p_k : Int) : Option ((List Bool) × Int) :=
  (ref14_Check p_s).bind fun r1 =>
  if (r1 != 0) = true then
  some ([], r1)
  else
  if ((decide (p_k < 0)) || (decide (p_k > (p_s.steps.length : Int)))) = true then
    some ([], 2)
  else
    (ref14_Behind p_s p_k).bind fun r2 =>
      some (r2, 0)

def ref14_Steps_loop1 (p_s : Sequence) (p_actuator : Int) (k1 : ((List Int) → Option (List Int))) : Nat → Int → (List Int) → Option (List Int)
  | 0, _, _ => none
  | m1 + 1, i1, l1 => if (decide (i1 < (p_s.steps.length : Int))) = true then
      joinK (fun (l3 : (List Int)) =>
          ref14_Steps_loop1 p_s p_actuator k1 m1 (IntKind.wrap .i64 (i1 + 1)) l3) fun k2 =>
        (at? p_s.steps i1).bind fun x1 =>
        (ref13_Way x1 p_actuator).bind fun r1 =>
        if (r1 != 0) = true then
        (appO 8 l1 ([i1] : List Int)).bind fun _ =>
          k2 (l1 ++ ([i1] : List Int))
      else
        k2 l1
    else
      k1 l1
def ref14_Steps (p_s : Sequence) (p_actuator : Int) : Option (List Int) :=
  joinK (fun (l4 : (List Int)) =>
    some l4) fun k1 =>
  ref14_Steps_loop1 p_s p_actuator k1 (Int.toNat ((p_s.steps.length : Int) - 0) + 1) 0 ([] : List Int)

def ref14_Moves (p_s : Sequence) (p_actuator : Int) : Option ((List Int) × Int) :=
  (ref14_Check p_s).bind fun r1 =>
  if (r1 != 0) = true then
  some ([], r1)
  else
  if ((decide (p_actuator < 0)) || (decide (p_actuator ≥ p_s.actuators))) = true then
    some ([], 2)
  else
    (ref14_Steps p_s p_actuator).bind fun r2 =>
      some (r2, 0)

def ref14_Repeats_loop2 (p_s : Sequence) (i1 : Int) (k3 : (Bool → Option ((List Int) × Int))) : Nat → Bool → Int → Option ((List Int) × Int)
  | 0, _, _ => none
  | m2 + 1, c1, i2 => if (decide (i2 < i1)) = true then
      if c1 = true then
        ref14_Repeats_loop2 p_s i1 k3 m2 true (IntKind.wrap .i64 (i2 + 1))
      else
        (ref14_Behind p_s i2).bind fun r2 =>
          (ref14_Behind p_s i1).bind fun r3 =>
          (ref13_SameEnds r2 r3).bind fun r4 =>
          ref14_Repeats_loop2 p_s i1 k3 m2 r4 (IntKind.wrap .i64 (i2 + 1))
    else
      k3 c1
def ref14_Repeats_loop1 (p_s : Sequence) (k1 : ((List Int) → Option ((List Int) × Int))) : Nat → Int → (List Int) → Option ((List Int) × Int)
  | 0, _, _ => none
  | m1 + 1, i1, l1 => if (decide (i1 < (p_s.steps.length : Int))) = true then
      joinK (fun (l3 : (List Int)) =>
          ref14_Repeats_loop1 p_s k1 m1 (IntKind.wrap .i64 (i1 + 1)) l3) fun k2 =>
        joinK (fun (c2 : Bool) =>
          if c2 = true then
            (appO 8 l1 ([i1] : List Int)).bind fun _ =>
              k2 (l1 ++ ([i1] : List Int))
          else
            k2 l1) fun k3 =>
        ref14_Repeats_loop2 p_s i1 k3 (Int.toNat (i1 - 0) + 1) false 0
    else
      k1 l1
def ref14_Repeats (p_s : Sequence) : Option ((List Int) × Int) :=
  (ref14_Check p_s).bind fun r1 =>
  if (r1 != 0) = true then
  some ([], r1)
  else
  joinK (fun (l4 : (List Int)) =>
      some (l4, 0)) fun k1 =>
    ref14_Repeats_loop1 p_s k1 (Int.toNat ((p_s.steps.length : Int) - 1) + 1) 1 ([] : List Int)

def law14_SequenceEnds (p_s : Sequence) (p_k : Int) : Option Bool :=
  (ref14_Few p_s).bind fun r1 =>
  if (!r1) = true then
  (law14_awake).bind fun r2 =>
    some r2
  else
  (sequence_Ends p_s p_k).bind fun r3 =>
    (ref14_Ends p_s p_k).bind fun r4 =>
    (sequence_Moves p_s p_k).bind fun r5 =>
    (ref14_Moves p_s p_k).bind fun r6 =>
    (slices_Equal_boolbool r3.1 r4.1).bind fun r7 =>
    (if ((!r7) || (r3.2 != r4.2)) = true then some true else (slices_Equal_intint r5.1 r6.1).bind fun r8 =>
    some (!r8)).bind fun c1 =>
    if (c1 || (r5.2 != r6.2)) = true then
    some false
  else
    (sequence_Repeats p_s).bind fun r9 =>
      (ref14_Repeats p_s).bind fun r10 =>
      (slices_Equal_intint r9.1 r10.1).bind fun r11 =>
      (if (r11 && (r9.2 == r10.2)) = true then (law14_awake).bind fun r12 =>
      some r12 else some false).bind fun c2 =>
      some c2

def law14_SequenceReturns_loop1 (p_s : Sequence) (k1 : ((List Bool) → Option Bool)) : Nat → (List Bool) → Int → Option Bool
  | 0, _, _ => none
  | m1 + 1, l1, i1 => if (decide (i1 < (p_s.steps.length : Int))) = true then
      (at? p_s.steps i1).bind fun x1 =>
        (sequence_Ends p_s i1).bind fun r3 =>
        (stroke_Apply x1 l1).bind fun r4 =>
        (if ((IntKind.wrap .i64 (r3.2 + r4.2)) != 0) = true then some true else (slices_Equal_boolbool r3.1 l1).bind fun r5 =>
        some (!r5)).bind fun c1 =>
        if c1 = true then
        some false
      else
        law14_SequenceReturns_loop1 p_s k1 m1 r4.1 (IntKind.wrap .i64 (i1 + 1))
    else
      k1 l1
def law14_SequenceReturns_loop3 (p_s : Sequence) (i2 : Int) (k3 : (Option Bool)) (r9 : ((List Int) × Int)) : Nat → Int → Option Bool
  | 0, _ => none
  | m3 + 1, i3 => if (decide (i3 < (r9.1.length : Int))) = true then
      (at? r9.1 i3).bind fun x2 =>
        if ((decide (x2 < 0)) || (decide (x2 ≥ (p_s.steps.length : Int)))) = true then
        some false
      else
        (at? p_s.steps x2).bind fun x3 =>
          (stroke_Has x3 i2).bind fun r10 =>
          if (((r10.2 != 0) || (!((decide (r10.1 > 0)) == ((Int.tmod i3 2) == 0)))) || (r10.1 == 0)) = true then
          some false
        else
          law14_SequenceReturns_loop3 p_s i2 k3 r9 m3 (IntKind.wrap .i64 (i3 + 1))
    else
      k3
def law14_SequenceReturns_loop2 (p_s : Sequence) (k2 : (Option Bool)) : Nat → Int → Option Bool
  | 0, _ => none
  | m2 + 1, i2 => if (decide (i2 < p_s.actuators)) = true then
      joinK (law14_SequenceReturns_loop2 p_s k2 m2 (IntKind.wrap .i64 (i2 + 1))) fun k3 =>
        (sequence_Moves p_s i2).bind fun r9 =>
        if (((r9.2 != 0) || ((r9.1.length : Int) == 0)) || ((Int.tmod (r9.1.length : Int) 2) != 0)) = true then
        some false
      else
        law14_SequenceReturns_loop3 p_s i2 k3 r9 (Int.toNat ((r9.1.length : Int) - 0) + 1) 0
    else
      k2
def law14_SequenceReturns (p_s : Sequence) : Option Bool :=
  (law14_right p_s).bind fun r1 =>
  if (!r1) = true then
  (law14_awake).bind fun r2 =>
    some r2
  else
  (guardO ((decide (0 ≤ p_s.actuators) && decide (p_s.actuators * 1 ≤ 140737488355328)) && decide (p_s.actuators ≤ 4611686018427387904))).bind fun _ =>
    joinK (fun (l2 : (List Bool)) =>
      (sequence_Ends p_s (p_s.steps.length : Int)).bind fun r6 =>
        (if (r6.2 != 0) = true then some true else (slices_Equal_boolbool r6.1 l2).bind fun r7 =>
        some (!r7)).bind fun c2 =>
        (if c2 = true then some true else (slices_Contains_boolbool r6.1 true).bind fun r8 =>
        some r8).bind fun c3 =>
        if c3 = true then
        some false
      else
        joinK ((law14_awake).bind fun r11 =>
          some r11) fun k2 =>
          law14_SequenceReturns_loop2 p_s k2 (Int.toNat (p_s.actuators - 0) + 1) 0) fun k1 =>
    law14_SequenceReturns_loop1 p_s k1 (Int.toNat ((p_s.steps.length : Int) - 0) + 1) (List.replicate (Int.toNat p_s.actuators) false) 0

def sequence_Text (p_s : Sequence) : Option ((List UInt8) × Int) :=
  (sequence_Check p_s).bind fun r1 =>
  if (r1 != 0) = true then
  some ([], r1)
  else
  (stroke_Format p_s.steps).bind fun r2 =>
    some (r2.1, r2.2)

def ref14_Text (p_s : Sequence) : Option ((List UInt8) × Int) :=
  (ref14_Check p_s).bind fun r1 =>
  if (r1 != 0) = true then
  some ([], r1)
  else
  (ref13_Lines p_s.steps).bind fun r2 =>
    some (r2, 0)

def ref14_Of_loop2 (p_l : (List Step)) (i1 : Int) (k2 : (Int → Option Sequence)) : Nat → Int → Int → Option Sequence
  | 0, _, _ => none
  | m2 + 1, i3, i4 => (at? p_l i1).bind fun x1 =>
      if (decide (i3 < (x1.strokes.length : Int))) = true then
      (at? p_l i1).bind fun x2 =>
        (at? x2.strokes i3).bind fun x3 =>
        ref14_Of_loop2 p_l i1 k2 m2 (IntKind.wrap .i64 (i3 + 1)) (if (IntKind.wrap .i64 (x3.actuator + 1)) > i4 then (IntKind.wrap .i64 (x3.actuator + 1)) else i4)
    else
      k2 i4
def ref14_Of_loop1 (p_l : (List Step)) (k1 : (Int → Option Sequence)) : Nat → Int → Int → Option Sequence
  | 0, _, _ => none
  | m1 + 1, i1, i2 => if (decide (i1 < (p_l.length : Int))) = true then
      joinK (fun (i5 : Int) =>
          ref14_Of_loop1 p_l k1 m1 (IntKind.wrap .i64 (i1 + 1)) i5) fun k2 =>
        ref14_Of_loop2 p_l i1 k2 42 0 i2
    else
      k1 i2
def ref14_Of (p_l : (List Step)) : Option Sequence :=
  joinK (fun (i6 : Int) =>
    some (Sequence.mk i6 p_l)) fun k1 =>
  ref14_Of_loop1 p_l k1 (Int.toNat ((p_l.length : Int) - 0) + 1) 0 0

def ref14_Parse (p_text : (List UInt8)) : Option (Sequence × Int × Int) :=
  (ref13_Parse p_text).bind fun r1 =>
  if (r1.2.2 != 0) = true then
  some ((Sequence.mk 0 []), r1.2.1, r1.2.2)
  else
  if ((r1.1.length : Int) == 0) = true then
    some ((Sequence.mk 0 []), 0, 13)
  else
    (ref14_Of r1.1).bind fun r2 =>
      (ref14_Check r2).bind fun r3 =>
      if (r3 != 0) = true then
      some ((Sequence.mk 0 []), 0, r3)
    else
      (ref14_Of r1.1).bind fun r4 =>
        some (r4, 0, 0)

def law14_SequenceTexts (p_s : Sequence) (p_text : (List UInt8)) : Option Bool :=
  (ref14_Few p_s).bind fun r1 =>
  if (((!r1) || ((decide ((p_text.length : Int) > 800)) && (decide ((p_text.length : Int) ≤ 4096)))) || (decide ((p_text.length : Int) > 8192))) = true then
  (law14_awake).bind fun r2 =>
    some r2
  else
  (sequence_Text p_s).bind fun r3 =>
    (ref14_Text p_s).bind fun r4 =>
    (sequence_Parse p_text).bind fun r5 =>
    (ref14_Parse p_text).bind fun r6 =>
    (if ((r3.1 == r4.1) && (r3.2 == r4.2)) = true then (ref14_Same r5.1 r6.1).bind fun r7 =>
    some r7 else some false).bind fun c1 =>
    (if ((c1 && (r5.2.1 == r6.2.1)) && (r5.2.2 == r6.2.2)) = true then (law14_awake).bind fun r8 =>
    some r8 else some false).bind fun c2 =>
    some c2

def law14_SequenceReads (p_s : Sequence) (p_text : (List UInt8)) : Option Bool :=
  (ref14_Few p_s).bind fun r1 =>
  if ((!r1) || (decide ((p_text.length : Int) > 800))) = true then
  (law14_awake).bind fun r2 =>
    some r2
  else
  joinK (joinK ((law14_awake).bind fun r8 =>
    some r8) fun k2 =>
    (sequence_Parse p_text).bind fun r6 =>
    if (r6.2.2 == 0) = true then
    (sequence_Text r6.1).bind fun r7 =>
      if ((r7.2 != 0) || (!(r7.1 == p_text))) = true then
      some false
    else
      k2
  else
    k2) fun k1 =>
    (sequence_Text p_s).bind fun r3 =>
    if (r3.2 == 0) = true then
    (sequence_Parse r3.1).bind fun r4 =>
      (if ((r4.2.2 != 0) || (r4.2.1 != 0)) = true then some true else (ref14_Same p_s r4.1).bind fun r5 =>
      some (!r5)).bind fun c1 =>
      if c1 = true then
      some false
    else
      k1
  else
    k1

def ref13_Few (p_x : Step) (p_ends : (List Bool)) : Option Bool :=
  some ((decide ((p_x.strokes.length : Int) ≤ 40)) && (decide ((p_ends.length : Int) ≤ 40)))

def stroke_Check (p_x : Stroke) : Option Int :=
  (stroke_known p_x.actuator).bind fun r1 =>
  if (!r1) = true then
  some 2
  else
  some 0

def stroke_Opposite (p_x : Stroke) : Option (Stroke × Int) :=
  (stroke_Check p_x).bind fun r1 =>
  if (r1 != 0) = true then
  some ((Stroke.mk 0 false), r1)
  else
  some ((Stroke.mk p_x.actuator (!p_x.out)), 0)

def ref13_Check (p_x : Stroke) : Option Int :=
  (ref13_Actuator p_x.actuator).bind fun r1 =>
  if (!r1) = true then
  some 2
  else
  some 0

def ref13_Turned (p_x : Stroke) : Option Stroke :=
  some (Stroke.mk p_x.actuator (!p_x.out))

def ref13_Opposite (p_x : Stroke) : Option (Stroke × Int) :=
  (ref13_Check p_x).bind fun r1 =>
  if (r1 != 0) = true then
  some ((Stroke.mk 0 false), r1)
  else
  (ref13_Turned p_x).bind fun r2 =>
    some (r2, 0)

def stroke_Text (p_x : Stroke) : Option ((List UInt8) × Int) :=
  (stroke_Check p_x).bind fun r1 =>
  if (r1 != 0) = true then
  some ([], r1)
  else
  (stroke_written p_x).bind fun r2 =>
    some (r2, 0)

def ref13_Text (p_x : Stroke) : Option ((List UInt8) × Int) :=
  (ref13_Check p_x).bind fun r1 =>
  if (r1 != 0) = true then
  some ([], r1)
  else
  (ref13_Written p_x).bind fun r2 =>
    some (r2, 0)

def stroke_Fits (p_x : Step) (p_ends : (List Bool)) : Option (Bool × Int) :=
  (stroke_given p_x p_ends).bind fun r1 =>
  if (r1 != 0) = true then
  some (false, r1)
  else
  (stroke_fits p_x p_ends).bind fun r2 =>
    some (r2, 0)

def ref13_given (p_x : Step) (p_ends : (List Bool)) : Option Int :=
  (ref13_CheckStep p_x).bind fun r1 =>
  if (r1 != 0) = true then
  some r1
  else
  if (decide ((p_ends.length : Int) > 6)) = true then
    some 5
  else
    some 0

def ref13_Fits (p_x : Step) (p_ends : (List Bool)) : Option (Bool × Int) :=
  (ref13_given p_x p_ends).bind fun r1 =>
  if (r1 != 0) = true then
  some (false, r1)
  else
  (ref13_Suits p_x p_ends).bind fun r2 =>
    some (r2, 0)

def ref13_Apply (p_x : Step) (p_ends : (List Bool)) : Option ((List Bool) × Int) :=
  (ref13_given p_x p_ends).bind fun r1 =>
  if (r1 != 0) = true then
  some ([], r1)
  else
  (ref13_Suits p_x p_ends).bind fun r2 =>
    if (!r2) = true then
    some ([], 14)
  else
    (ref13_After p_x p_ends).bind fun r3 =>
      some (r3, 0)

def ref13_steps_loop1 (p_l : (List Step)) (k1 : (Option Int)) : Nat → Int → Option Int
  | 0, _ => none
  | m1 + 1, i1 => if (decide (i1 < (p_l.length : Int))) = true then
      (at? p_l i1).bind fun x1 =>
        (ref13_CheckStep x1).bind fun r1 =>
        if (r1 != 0) = true then
        some r1
      else
        ref13_steps_loop1 p_l k1 m1 (IntKind.wrap .i64 (i1 + 1))
    else
      k1
def ref13_steps (p_l : (List Step)) : Option Int :=
  if (decide ((p_l.length : Int) > 64)) = true then
  some 5
  else
  joinK (some 0) fun k1 =>
    ref13_steps_loop1 p_l k1 (Int.toNat ((p_l.length : Int) - 0) + 1) 0

def ref13_Format (p_l : (List Step)) : Option ((List UInt8) × Int) :=
  (ref13_steps p_l).bind fun r1 =>
  if (r1 != 0) = true then
  some ([], r1)
  else
  (ref13_Lines p_l).bind fun r2 =>
    some (r2, 0)

def ref13_Has (p_x : Step) (p_actuator : Int) : Option (Int × Int) :=
  (ref13_CheckStep p_x).bind fun r1 =>
  if (r1 != 0) = true then
  some (0, r1)
  else
  (ref13_Actuator p_actuator).bind fun r2 =>
    if (!r2) = true then
    some (0, 2)
  else
    (ref13_Way p_x p_actuator).bind fun r3 =>
      some (r3, 0)

end Go.Proofs.YtcgmhlakihjbkaaGreatDoor.W
