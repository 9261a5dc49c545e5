/- Plain functions of another seat's, for the laws that speak of them. No program in sight. -/
import Derived.Test.YtpocodofhkaddaaGreatDoorPlain
set_option linter.unusedVariables false
set_option maxRecDepth 100000
namespace Go.Proofs.YtpocodofhkaddaaGreatDoor.W
open Go Go.RowKit
def journal_Due_loop1 (p_m : Machine) (k1 : ((List (List UInt8)) → Option ((List (List UInt8)) × Int))) : Nat → Int → (List (List UInt8)) → Option ((List (List UInt8)) × Int)
  | 0, _, _ => none
  | m1 + 1, i1, l1 => if (decide (i1 < (p_m.items.length : Int))) = true then
      joinK (fun (l3 : (List (List UInt8))) =>
          journal_Due_loop1 p_m k1 m1 (IntKind.wrap .i64 (i1 + 1)) l3) fun k2 =>
        (at? p_m.items i1).bind fun x1 =>
        if (x1.faulty || (decide (x1.used ≥ x1.life))) = true then
        (appO 16 l1 ([x1.name] : List (List UInt8))).bind fun _ =>
          k2 (l1 ++ ([x1.name] : List (List UInt8)))
      else
        k2 l1
    else
      k1 l1
def journal_Due (p_m : Machine) : Option ((List (List UInt8)) × Int) :=
  (journal_Check p_m).bind fun r1 =>
  if (r1 != 0) = true then
  some ([], r1)
  else
  joinK (fun (l4 : (List (List UInt8))) =>
      some (l4, 0)) fun k1 =>
    journal_Due_loop1 p_m k1 (Int.toNat ((p_m.items.length : Int) - 0) + 1) 0 ([] : List (List UInt8))

def ref12_Digits_loop1 (k1 : ((List UInt8) → Option (List UInt8))) : Nat → Int → (List UInt8) → Option (List UInt8)
  | 0, _, _ => none
  | m1 + 1, i1, s2 => if (decide (i1 > 0)) = true then
      (cut [48, 49, 50, 51, 52, 53, 54, 55, 56, 57] (Int.tmod i1 10) (IntKind.wrap .i64 ((Int.tmod i1 10) + 1))).bind fun s3 =>
        (catO s3 s2).bind fun s4 =>
        ref12_Digits_loop1 k1 m1 (IntKind.wrap .i64 (Int.tdiv i1 10)) s4
    else
      k1 s2
def ref12_Digits (p_n : Int) : Option (List UInt8) :=
  (cut [48, 49, 50, 51, 52, 53, 54, 55, 56, 57] (Int.tmod p_n 10) (IntKind.wrap .i64 ((Int.tmod p_n 10) + 1))).bind fun s1 =>
  joinK (fun (s5 : (List UInt8)) =>
    some s5) fun k1 =>
  ref12_Digits_loop1 k1 (p_n.toNat + 2) (IntKind.wrap .i64 (Int.tdiv p_n 10)) s1

def ref58_Mark_loop1 (p_s : (List UInt8)) (k2 : (Int → Option Int)) : Nat → Int → Int → Option Int
  | 0, _, _ => none
  | m1 + 1, i2, i3 => if (decide (i3 < (p_s.length : Int))) = true then
      (byteAt p_s i3).bind fun b1 =>
        ref58_Mark_loop1 p_s k2 m1 (Int.tmod (IntKind.wrap .i64 ((IntKind.wrap .i64 ((IntKind.wrap .i64 (31 * i2)) + (IntKind.wrap .i64 (b1.toNat : Int)))) + 7)) 65521) (IntKind.wrap .i64 (i3 + 1))
    else
      k2 i2
def ref58_Mark (p_before : Int) (p_s : (List UInt8)) : Option Int :=
  joinK (fun (i1 : Int) =>
    joinK (fun (i4 : Int) =>
        some i4) fun k2 =>
      ref58_Mark_loop1 p_s k2 (Int.toNat ((p_s.length : Int) - 0) + 1) i1 0) fun k1 =>
  if (decide ((Int.tmod p_before 65521) < 0)) = true then
  k1 (IntKind.wrap .i64 ((Int.tmod p_before 65521) + 65521))
  else
  k1 (Int.tmod p_before 65521)

def law58_awake  : Option Bool :=
  (law58_Four).bind fun r1 =>
  (journal_Run r1).bind fun r2 =>
  (journal_Left r2.1 [65] 20).bind fun r3 =>
  (journal_Due r2.1).bind fun r4 =>
  (law58_Four).bind fun r5 =>
  (part? r5 0 3).bind fun l1 =>
  (journal_Run l1).bind fun r6 =>
  (journal_Do r6.1 (Entry.mk 1 [65] 1 20)).bind fun r7 =>
  (journal_Do r2.1 (Entry.mk 3 [65] 0 0)).bind fun r8 =>
  (journal_Do r2.1 (Entry.mk 0 [65] 5 0)).bind fun r9 =>
  (law58_Four).bind fun r10 =>
  (part? r10 0 1).bind fun l2 =>
  (journal_Log l2).bind fun r11 =>
  (if ((((((((IntKind.wrap .i64 ((IntKind.wrap .i64 ((IntKind.wrap .i64 ((IntKind.wrap .i64 (r2.2.2 + r3.2)) + r4.2)) + r6.2.2)) + r11.2)) != 0) || (r7.2 != 14)) || (r8.2 != 14)) || (r9.2 != 7)) || (r3.1 != 2)) || ((r4.1.length : Int) != 0)) || (r2.1.cycles != 3)) = true then some true else (ref58_Mark 0 [112, 97, 114, 116, 32, 65, 32, 49, 48, 48]).bind fun r12 =>
  (ref12_Digits r12).bind fun r13 =>
  (catO [112, 97, 114, 116, 32, 65, 32, 49, 48, 48, 32, 59, 32] r13).bind fun s1 =>
  (catO s1 [10]).bind fun s2 =>
  some (!(r11.1 == s2))).bind fun c1 =>
  if c1 = true then
  some false
  else
  (slices_Equal_journal_Itemjournal_Item r2.1.items ([(Item.mk [65] 100 60 1 false 0 3)] : List Item)).bind fun r14 =>
    (if r14 = true then (ref58_Mark 0 [97]).bind fun r15 =>
    some (r15 == 104) else some false).bind fun c2 =>
    (if c2 = true then (ref58_Mark 0 [97, 98]).bind fun r16 =>
    some (r16 == 3329) else some false).bind fun c3 =>
    some c3

def journal_Text (p_x : Entry) : Option ((List UInt8) × Int) :=
  (journal_Right p_x).bind fun r1 =>
  if (r1 != 0) = true then
  some ([], r1)
  else
  (journal_text p_x).bind fun r2 =>
    some (r2, 0)

def ref58_words  : Option (List (List UInt8)) :=
  some ([[112, 97, 114, 116], [99, 121, 99, 108, 101, 115], [102, 97, 117, 108, 116], [114, 101, 112, 97, 105, 114], [114, 101, 112, 108, 97, 99, 101], [114, 101, 109, 111, 118, 101]] : List (List UInt8))

def ref58_Written (p_x : Entry) : Option (List UInt8) :=
  (ref58_words).bind fun r1 =>
  (at? r1 p_x.kind).bind fun x1 =>
  (catO x1 [32]).bind fun s1 =>
  (catO s1 p_x.name).bind fun s2 =>
  joinK (fun (s5 : (List UInt8)) =>
    joinK (fun (s8 : (List UInt8)) =>
        some s8) fun k2 =>
      if (p_x.kind == 1) = true then
      (ref12_Digits p_x.strokes).bind fun r4 =>
        (catO [32] r4).bind fun s6 =>
        (catO s5 s6).bind fun s7 =>
        k2 s7
    else
      k2 s5) fun k1 =>
  (ref58_counted p_x.kind).bind fun r2 =>
  if r2 = true then
  (ref12_Digits p_x.count).bind fun r3 =>
    (catO [32] r3).bind fun s3 =>
    (catO s2 s3).bind fun s4 =>
    k1 s4
  else
  k1 s2

def ref58_Text (p_x : Entry) : Option ((List UInt8) × Int) :=
  (ref58_Right p_x).bind fun r1 =>
  if (r1 != 0) = true then
  some ([], r1)
  else
  (ref58_Written p_x).bind fun r2 =>
    some (r2, 0)

def ref12_Fields_loop1 (p_line : (List UInt8)) (k1 : ((List (List UInt8)) → Option (List (List UInt8)))) : Nat → (List UInt8) → Int → (List (List UInt8)) → Option (List (List UInt8))
  | 0, _, _, _ => none
  | m1 + 1, s1, i1, l1 => if (decide (i1 ≤ (p_line.length : Int))) = true then
      joinK (fun (s4 : (List UInt8)) (l4 : (List (List UInt8))) =>
          ref12_Fields_loop1 p_line k1 m1 s4 (IntKind.wrap .i64 (i1 + 1)) l4) fun k2 =>
        (if (decide (i1 < (p_line.length : Int))) = true then (byteAt p_line i1).bind fun b1 =>
        some ((b1.toNat : Int) != 32) else some false).bind fun c1 =>
        if c1 = true then
        (cut p_line i1 (IntKind.wrap .i64 (i1 + 1))).bind fun s2 =>
          (catO s1 s2).bind fun s3 =>
          k2 s3 l1
      else
        joinK (fun (l3 : (List (List UInt8))) =>
            k2 [] l3) fun k3 =>
          if (!(s1 == [])) = true then
          (appO 16 l1 ([s1] : List (List UInt8))).bind fun _ =>
            k3 (l1 ++ ([s1] : List (List UInt8)))
        else
          k3 l1
    else
      k1 l1
def ref12_Fields (p_line : (List UInt8)) : Option (List (List UInt8)) :=
  joinK (fun (l5 : (List (List UInt8))) =>
    some l5) fun k1 =>
  ref12_Fields_loop1 p_line k1 (p_line.length + 2) [] 0 ([] : List (List UInt8))

def ref12_Number_loop1 (p_s : (List UInt8)) (k1 : (Option Int)) : Nat → Int → Option Int
  | 0, _ => none
  | m1 + 1, i1 => if (decide (i1 < (p_s.length : Int))) = true then
      (byteAt p_s i1).bind fun b2 =>
        (ref12_Digit (b2.toNat : Int)).bind fun r1 =>
        if (!r1) = true then
        some 3
      else
        ref12_Number_loop1 p_s k1 m1 (IntKind.wrap .i64 (i1 + 1))
    else
      k1
def ref12_Number (p_s : (List UInt8)) : Option Int :=
  (if ((p_s.length : Int) == 0) = true then some true else (if (decide ((p_s.length : Int) > 1)) = true then (byteAt p_s 0).bind fun b1 =>
  some ((b1.toNat : Int) == 48) else some false).bind fun c2 =>
  some c2).bind fun c1 =>
  if c1 = true then
  some 3
  else
  joinK (if (decide ((p_s.length : Int) > 7)) = true then
    some 17
  else
    some 0) fun k1 =>
    ref12_Number_loop1 p_s k1 (Int.toNat ((p_s.length : Int) - 0) + 1) 0

def ref12_Worth_loop1 (p_s : (List UInt8)) (k1 : (Int → Option Int)) : Nat → Int → Int → Option Int
  | 0, _, _ => none
  | m1 + 1, i1, i2 => if (decide (i2 < (p_s.length : Int))) = true then
      (byteAt p_s i2).bind fun b1 =>
        ref12_Worth_loop1 p_s k1 m1 (IntKind.wrap .i64 ((IntKind.wrap .i64 (10 * i1)) + (IntKind.wrap .i64 (IntKind.wrap .u8 ((b1.toNat : Int) - 48))))) (IntKind.wrap .i64 (i2 + 1))
    else
      k1 i1
def ref12_Worth (p_s : (List UInt8)) : Option Int :=
  joinK (fun (i3 : Int) =>
    some i3) fun k1 =>
  ref12_Worth_loop1 p_s k1 (Int.toNat ((p_s.length : Int) - 0) + 1) 0 0

def ref12_Value (p_s : (List UInt8)) : Option (Int × Int) :=
  joinK (fun (s2 : (List UInt8)) (i1 : Int) =>
    if ((decide (i1 < 0)) && (s2 == [48])) = true then
      some (0, 3)
    else
      (ref12_Number s2).bind fun r1 =>
        if (r1 != 0) = true then
        some (0, r1)
      else
        (ref12_Worth s2).bind fun r2 =>
          some ((IntKind.wrap .i64 (i1 * r2)), 0)) fun k1 =>
  (if (decide ((p_s.length : Int) > 0)) = true then (byteAt p_s 0).bind fun b1 =>
  some ((b1.toNat : Int) == 45) else some false).bind fun c1 =>
  if c1 = true then
  (cut p_s 1 (p_s.length : Int)).bind fun s1 =>
    k1 s1 (-1)
  else
  k1 p_s 1

def ref58_Read_loop2 (r1 : ((List (List UInt8)))) (k2 : (Int → (List UInt8) → Int → Int → Option (Entry × Int))) (s1 : (List UInt8)) (i3 : Int) (i4 : Int) : Nat → Int → Int → Option (Entry × Int)
  | 0, _, _ => none
  | m2 + 1, i5, i6 => if (decide (i5 < 6)) = true then
      joinK (fun (i7 : Int) =>
          ref58_Read_loop2 r1 k2 s1 i3 i4 m2 (IntKind.wrap .i64 (i5 + 1)) i7) fun k3 =>
        (at? r1 0).bind fun x1 =>
        (ref58_words).bind fun r2 =>
        (at? r2 i5).bind fun x2 =>
        if (x2 == x1) = true then
        k3 i5
      else
        k3 i6
    else
      k2 i6 s1 i3 i4
def ref58_Read_loop1 (r1 : ((List (List UInt8)))) (k1 : (Int → (List UInt8) → Int → Int → Option (Entry × Int))) : Nat → Int → Int → (List UInt8) → Int → Int → Option (Entry × Int)
  | 0, _, _, _, _, _ => none
  | m1 + 1, i1, i2, s1, i3, i4 => if (decide (i1 < (r1.length : Int))) = true then
      joinK (fun (i8 : Int) (s2 : (List UInt8)) (i9 : Int) (i10 : Int) =>
          ref58_Read_loop1 r1 k1 m1 (IntKind.wrap .i64 (i1 + 1)) i8 s2 i9 i10) fun k2 =>
        if (i1 == 0) = true then
        ref58_Read_loop2 r1 k2 s1 i3 i4 (Int.toNat (6 - 0) + 1) 0 i2
      else
        if (i1 == 1) = true then
          (at? r1 1).bind fun x3 =>
            k2 i2 x3 i3 i4
        else
          if (i1 == 2) = true then
            (at? r1 2).bind fun x4 =>
              (ref12_Value x4).bind fun r3 =>
              k2 i2 s1 r3.1 i4
          else
            if (i1 == 3) = true then
              (at? r1 3).bind fun x5 =>
                (ref12_Value x5).bind fun r4 =>
                k2 i2 s1 i3 r4.1
            else
              k2 i2 s1 i3 i4
    else
      k1 i2 s1 i3 i4
def ref58_Read (p_s : (List UInt8)) : Option (Entry × Int) :=
  if (decide ((p_s.length : Int) > 4096)) = true then
  some ((Entry.mk 0 [] 0 0), 17)
  else
  (ref12_Fields p_s).bind fun r1 =>
    joinK (fun (i11 : Int) (s3 : (List UInt8)) (i12 : Int) (i13 : Int) =>
      (ref58_Text (Entry.mk i11 s3 i12 i13)).bind fun r5 =>
        if ((r5.2 != 0) || (!(r5.1 == p_s))) = true then
        some ((Entry.mk 0 [] 0 0), 4)
      else
        some ((Entry.mk i11 s3 i12 i13), 0)) fun k1 =>
    ref58_Read_loop1 r1 k1 (Int.toNat ((r1.length : Int) - 0) + 1) 0 (-1) [] 0 0

def law58_JournalTexts (p_x : Entry) (p_s : (List UInt8)) : Option Bool :=
  if (((decide ((p_x.name.length : Int) > 60)) || ((decide ((p_s.length : Int) > 300)) && (decide ((p_s.length : Int) ≤ 4096)))) || (decide ((p_s.length : Int) > 8192))) = true then
  (law58_awake).bind fun r1 =>
    some r1
  else
  (journal_Text p_x).bind fun r2 =>
    (ref58_Text p_x).bind fun r3 =>
    (journal_Read p_s).bind fun r4 =>
    (ref58_Read p_s).bind fun r5 =>
    (law58_awake).bind fun r6 =>
    some ((((r6 && (r2.1 == r3.1)) && (r2.2 == r3.2)) && (r4.1 == r5.1)) && (r4.2 == r5.2))

def law58_JournalReads (p_x : Entry) : Option Bool :=
  (if (decide ((p_x.name.length : Int) > 60)) = true then some true else (ref58_Right p_x).bind fun r1 =>
  some (r1 != 0)).bind fun c1 =>
  if c1 = true then
  (law58_awake).bind fun r2 =>
    some r2
  else
  (journal_Text p_x).bind fun r3 =>
    (journal_Read r3.1).bind fun r4 =>
    (if (((IntKind.wrap .i64 (r3.2 + r4.2)) == 0) && (r4.1 == p_x)) = true then (law58_awake).bind fun r5 =>
    some r5 else some false).bind fun c2 =>
    some c2

def ref58_Short (p_s : (List UInt8)) : Option Bool :=
  some ((decide ((p_s.length : Int) ≤ 1500)) || ((decide ((p_s.length : Int) > 262144)) && (decide ((p_s.length : Int) < 524288))))

def ref58_end_loop1 (p_s : (List UInt8)) (k1 : (Option Int)) : Nat → Int → Option Int
  | 0, _ => none
  | m1 + 1, i1 => if (decide (i1 < (p_s.length : Int))) = true then
      (byteAt p_s i1).bind fun b1 =>
        if ((b1.toNat : Int) == 10) = true then
        some i1
      else
        ref58_end_loop1 p_s k1 m1 (IntKind.wrap .i64 (i1 + 1))
    else
      k1
def ref58_end (p_s : (List UInt8)) (p_at : Int) : Option Int :=
  joinK (some (-1)) fun k1 =>
  ref58_end_loop1 p_s k1 (Int.toNat ((p_s.length : Int) - p_at) + 1) p_at

def ref58_front_loop1 (p_line : (List UInt8)) (k1 : (Option ((List UInt8) × Bool))) : Nat → Int → Option ((List UInt8) × Bool)
  | 0, _ => none
  | m1 + 1, i1 => if (decide (i1 ≥ 0)) = true then
      (cut p_line i1 (IntKind.wrap .i64 (i1 + 3))).bind fun s1 =>
        if (s1 == [32, 59, 32]) = true then
        (cut p_line 0 i1).bind fun s2 =>
          some (s2, true)
      else
        ref58_front_loop1 p_line k1 m1 (IntKind.wrap .i64 (i1 - 1))
    else
      k1
def ref58_front (p_line : (List UInt8)) : Option ((List UInt8) × Bool) :=
  joinK (some ([], false)) fun k1 =>
  ref58_front_loop1 p_line k1 (p_line.length + 1) (IntKind.wrap .i64 ((p_line.length : Int) - 3))

def ref58_Line (p_before : Int) (p_s : (List UInt8)) : Option ((List UInt8) × Int) :=
  (ref58_Mark p_before p_s).bind fun r1 =>
  (catO p_s [32, 59, 32]).bind fun s1 =>
  (ref12_Digits r1).bind fun r2 =>
  (catO s1 r2).bind fun s2 =>
  (catO s2 [10]).bind fun s3 =>
  some (s3, r1)

def ref58_Begun_loop1 (p_text : (List UInt8)) (k1 : (Int → Int → (List Item) → Int → Option (Machine × Int × Int × Int))) : Nat → Int → Int → Int → (List Item) → Int → Option (Machine × Int × Int × Int)
  | 0, _, _, _, _, _ => none
  | m1 + 1, i1, i2, i3, l1, i4 => if (decide (i3 < (p_text.length : Int))) = true then
      if (i2 == 4096) = true then
        some ((Machine.mk l1 i4), i2, i3, 5)
      else
        (ref58_end p_text i3).bind fun r1 =>
          if (decide (r1 < 0)) = true then
          some ((Machine.mk l1 i4), i2, i3, 18)
        else
          (cut p_text i3 r1).bind fun s1 =>
            (ref58_front s1).bind fun r2 =>
            (ref58_Line i1 r2.1).bind fun r3 =>
            (if (!r2.2) = true then some true else (cut p_text i3 (IntKind.wrap .i64 (r1 + 1))).bind fun s2 =>
            some (!(r3.1 == s2))).bind fun c1 =>
            if c1 = true then
            some ((Machine.mk l1 i4), i2, i3, 19)
          else
            (ref58_Read r2.1).bind fun r4 =>
              if (r4.2 != 0) = true then
              some ((Machine.mk l1 i4), i2, i3, 4)
            else
              (ref58_Do (Machine.mk l1 i4) r4.1).bind fun r5 =>
                if (r5.2 != 0) = true then
                some ((Machine.mk l1 i4), i2, i3, r5.2)
              else
                ref58_Begun_loop1 p_text k1 m1 r3.2 (IntKind.wrap .i64 (i2 + 1)) (IntKind.wrap .i64 (r1 + 1)) r5.1.items r5.1.cycles
    else
      k1 i2 i3 l1 i4
def ref58_Begun (p_text : (List UInt8)) : Option (Machine × Int × Int × Int) :=
  joinK (fun (i5 : Int) (i6 : Int) (l2 : (List Item)) (i7 : Int) =>
    some ((Machine.mk l2 i7), i5, i6, 0)) fun k1 =>
  ref58_Begun_loop1 p_text k1 (Int.toNat ((p_text.length : Int) - 0) + 1) 0 0 0 [] 0

def ref58_Load (p_text : (List UInt8)) : Option (Machine × Int × Int) :=
  if (decide ((p_text.length : Int) > 262144)) = true then
  some ((Machine.mk [] 0), 0, 17)
  else
  (ref58_Begun p_text).bind fun r1 =>
    if (r1.2.2.2 != 0) = true then
    some ((Machine.mk [] 0), r1.2.1, r1.2.2.2)
  else
    some (r1.1, r1.2.1, 0)

def ref58_Same_loop1 (p_a : Machine) (p_b : Machine) (k1 : (Option Bool)) : Nat → Int → Option Bool
  | 0, _ => none
  | m1 + 1, i1 => if (decide (i1 < (p_a.items.length : Int))) = true then
      (at? p_a.items i1).bind fun x1 =>
        (at? p_b.items i1).bind fun x2 =>
        if (!(x1 == x2)) = true then
        some false
      else
        ref58_Same_loop1 p_a p_b k1 m1 (IntKind.wrap .i64 (i1 + 1))
    else
      k1
def ref58_Same (p_a : Machine) (p_b : Machine) : Option Bool :=
  if ((p_a.cycles != p_b.cycles) || ((p_a.items.length : Int) != (p_b.items.length : Int))) = true then
  some false
  else
  joinK (some true) fun k1 =>
    ref58_Same_loop1 p_a p_b k1 (Int.toNat ((p_a.items.length : Int) - 0) + 1) 0

def law58_own_loop1 (p_m : Machine) (k1 : ((List Item) → Option Machine)) : Nat → Int → (List Item) → Option Machine
  | 0, _, _ => none
  | m1 + 1, i1, l1 => if (decide (i1 < (p_m.items.length : Int))) = true then
      (at? p_m.items i1).bind fun x1 =>
        (appO 64 l1 ([x1] : List Item)).bind fun _ =>
        law58_own_loop1 p_m k1 m1 (IntKind.wrap .i64 (i1 + 1)) (l1 ++ ([x1] : List Item))
    else
      k1 l1
def law58_own (p_m : Machine) : Option Machine :=
  joinK (fun (l3 : (List Item)) =>
    some (Machine.mk l3 p_m.cycles)) fun k1 =>
  law58_own_loop1 p_m k1 (Int.toNat ((p_m.items.length : Int) - 0) + 1) 0 ([] : List Item)

def journal_Repaired (p_text : (List UInt8)) : Option (List UInt8) :=
  (cut p_text 0 (if (262144 : Int) < (p_text.length : Int) then 262144 else (p_text.length : Int))).bind fun s1 =>
  (journal_readAll s1).bind fun r1 =>
  (cut p_text 0 r1.1.size).bind fun s2 =>
  some s2

def ref58_Repaired (p_text : (List UInt8)) : Option (List UInt8) :=
  joinK (fun (s2 : (List UInt8)) =>
    (ref58_Begun s2).bind fun r1 =>
      (cut s2 0 r1.2.2.1).bind fun s3 =>
      some s3) fun k1 =>
  if (decide ((p_text.length : Int) > 262144)) = true then
  (cut p_text 0 262144).bind fun s1 =>
    k1 s1
  else
  k1 p_text

def law58_JournalLoads (p_s : (List UInt8)) : Option Bool :=
  (ref58_Short p_s).bind fun r1 =>
  if (!r1) = true then
  (law58_awake).bind fun r2 =>
    some r2
  else
  (journal_Load p_s).bind fun r3 =>
    (ref58_Load p_s).bind fun r4 =>
    (law58_awake).bind fun r5 =>
    if r5 = true then
    (law58_own r3.1).bind fun r6 =>
      (ref58_Same r6 r4.1).bind fun r7 =>
      if r7 = true then
      if (r3.2.1 == r4.2.1) = true then
        if (r3.2.2 == r4.2.2) = true then
          (journal_Repaired p_s).bind fun r8 =>
            (ref58_Repaired p_s).bind fun r9 =>
            some (r8 == r9)
        else
          some false
      else
        some false
    else
      some false
  else
    some false

def law58_entries_loop1 (p_l : (List Entry)) (k1 : ((List Entry) → Option (List Entry))) : Nat → Int → (List Entry) → Option (List Entry)
  | 0, _, _ => none
  | m1 + 1, i1, l1 => if (decide (i1 < (p_l.length : Int))) = true then
      (at? p_l i1).bind fun x1 =>
        (appO 40 l1 ([x1] : List Entry)).bind fun _ =>
        law58_entries_loop1 p_l k1 m1 (IntKind.wrap .i64 (i1 + 1)) (l1 ++ ([x1] : List Entry))
    else
      k1 l1
def law58_entries (p_l : (List Entry)) : Option (List Entry) :=
  joinK (fun (l3 : (List Entry)) =>
    some l3) fun k1 =>
  law58_entries_loop1 p_l k1 (Int.toNat ((p_l.length : Int) - 0) + 1) 0 ([] : List Entry)

def law58_right (p_l : (List Entry)) : Option Bool :=
  (if (decide ((p_l.length : Int) > 20)) = true then some true else (law58_entries p_l).bind fun r1 =>
  (ref58_FewEntries r1).bind fun r2 =>
  some (!r2)).bind fun c1 =>
  if c1 = true then
  some false
  else
  (law58_entries p_l).bind fun r3 =>
    (ref58_Run r3).bind fun r4 =>
    some (r4.2.2 == 0)

def law58_JournalTears (p_l : (List Entry)) (p_at : Int) : Option Bool :=
  (law58_right p_l).bind fun r1 =>
  if (!r1) = true then
  (law58_awake).bind fun r2 =>
    some r2
  else
  (journal_Log p_l).bind fun r3 =>
    (journal_Run p_l).bind fun r4 =>
    (journal_Load r3.1).bind fun r5 =>
    joinK (fun (c1 : Bool) =>
      if c1 = true then
        some false
      else
        (guardO ((IntKind.wrap .i64 ((r3.1.length : Int) + 1)) != 0)).bind fun _ =>
          (cut r3.1 0 (Int.tmod (IntKind.wrap .i64 p_at) (IntKind.wrap .i64 ((r3.1.length : Int) + 1)))).bind fun s1 =>
          (countS s1 [10]).bind fun r10 =>
          (journal_Repaired s1).bind fun r11 =>
          (if (decide (r10 > (p_l.length : Int))) = true then some true else (lastIdx s1 [10]).bind fun r12 =>
          (cut s1 0 (IntKind.wrap .i64 (r12 + 1))).bind fun s2 =>
          some (!(r11 == s2))).bind fun c2 =>
          if c2 = true then
          some false
        else
          (part? p_l 0 r10).bind fun l1 =>
            (journal_Log l1).bind fun r13 =>
            (part? p_l 0 r10).bind fun l2 =>
            (journal_Run l2).bind fun r14 =>
            (journal_Load r11).bind fun r15 =>
            (journal_Load s1).bind fun r16 =>
            joinK (fun (c3 : Bool) =>
              if c3 = true then
                some false
              else
                (if (((r16.2.2 == 0) == (r11 == s1)) && ((r16.2.2 == 0) || (r16.2.2 == 18))) = true then (law58_awake).bind fun r20 =>
                  some r20 else some false).bind fun c4 =>
                  some c4) fun k2 =>
            if ((IntKind.wrap .i64 ((IntKind.wrap .i64 (r13.2 + r14.2.2)) + r15.2.2)) != 0) = true then
            k2 true
          else
            if (!(r13.1 == r11)) = true then
              k2 true
            else
              if (r15.2.1 != r10) = true then
                k2 true
              else
                if (r16.2.1 != r10) = true then
                  k2 true
                else
                  (law58_own r14.1).bind fun r17 =>
                    (law58_own r15.1).bind fun r18 =>
                    (ref58_Same r17 r18).bind fun r19 =>
                    k2 (!r19)) fun k1 =>
    if ((IntKind.wrap .i64 ((IntKind.wrap .i64 (r3.2 + r4.2.2)) + r5.2.2)) != 0) = true then
    k1 true
  else
    if (r5.2.1 != (p_l.length : Int)) = true then
      k1 true
    else
      (law58_own r5.1).bind fun r6 =>
        (law58_own r4.1).bind fun r7 =>
        (ref58_Same r6 r7).bind fun r8 =>
        if (!r8) = true then
        k1 true
      else
        (journal_Repaired r3.1).bind fun r9 =>
          k1 (!(r9 == r3.1))

def law58_JournalSpoils (p_l : (List Entry)) (p_at : Int) (p_b : Int) : Option Bool :=
  (law58_right p_l).bind fun r1 =>
  if ((!r1) || ((p_l.length : Int) == 0)) = true then
  (law58_awake).bind fun r2 =>
    some r2
  else
  (journal_Log p_l).bind fun r3 =>
    if ((r3.2 != 0) || (r3.1 == [])) = true then
    some false
  else
    (guardO ((r3.1.length : Int) != 0)).bind fun _ =>
      (byteAt r3.1 (Int.tmod (IntKind.wrap .i64 p_at) (r3.1.length : Int))).bind fun b1 =>
      (if ((b1.toNat : Int) == p_b) = true then some true else (byteAt r3.1 (Int.tmod (IntKind.wrap .i64 p_at) (r3.1.length : Int))).bind fun b2 =>
      some ((b2.toNat : Int) == 10)).bind fun c1 =>
      if (c1 || (p_b == 10)) = true then
      (law58_awake).bind fun r4 =>
        some r4
    else
      (cut r3.1 0 (Int.tmod (IntKind.wrap .i64 p_at) (r3.1.length : Int))).bind fun s1 =>
        (cut r3.1 (IntKind.wrap .i64 ((Int.tmod (IntKind.wrap .i64 p_at) (r3.1.length : Int)) + 1)) (r3.1.length : Int)).bind fun s2 =>
        (catO s1 (bytesS ([p_b] : List Int))).bind fun s3 =>
        (catO s3 s2).bind fun s4 =>
        (journal_Load s4).bind fun r5 =>
        (if (r5.2.2 != 0) = true then (cut r3.1 0 (Int.tmod (IntKind.wrap .i64 p_at) (r3.1.length : Int))).bind fun s5 =>
        (countS s5 [10]).bind fun r6 =>
        some (r5.2.1 == r6) else some false).bind fun c2 =>
        (if c2 = true then (journal_Repaired s4).bind fun r7 =>
        (cut r3.1 0 (Int.tmod (IntKind.wrap .i64 p_at) (r3.1.length : Int))).bind fun s6 =>
        (lastIdx s6 [10]).bind fun r8 =>
        (cut r3.1 0 (IntKind.wrap .i64 (r8 + 1))).bind fun s7 =>
        some (r7 == s7) else some false).bind fun c3 =>
        (if c3 = true then (law58_awake).bind fun r9 =>
        some r9 else some false).bind fun c4 =>
        some c4

end Go.Proofs.YtpocodofhkaddaaGreatDoor.W
