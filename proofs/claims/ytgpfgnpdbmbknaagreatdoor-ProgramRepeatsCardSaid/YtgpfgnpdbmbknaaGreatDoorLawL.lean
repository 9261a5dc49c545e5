import Derived.Test.YtgpfgnpdbmbknaaGreatDoorPlain
import Derived.Test.YtgpfgnpdbmbknaaGreatDoorLibN
import Derived.Lib.Join
import Derived.Lib.IndexMore
set_option linter.unusedVariables false
set_option linter.unusedSimpArgs false
set_option maxHeartbeats 2000000
namespace Go.Proofs.YtgpfgnpdbmbknaaGreatDoor.W
open Go Go.RowKit
theorem wrap64 {x : Int} (h : -9223372036854775808 ≤ x) (k : x ≤ 9223372036854775807) : IntKind.wrap .i64 x = x := by
 unfold IntKind.wrap
 simp [IntKind.bits, IntKind.signed]
 split <;> omega
theorem maxLen_eq : maxLen = 9223372036854775807 := by decide
section
variable {α : Type} {x : α} {pre r l : List α}
theorem at?_mid : at? (pre ++ x :: r) (pre.length : Int) = some x := by
 unfold at?
 rw [if_pos (by omega)]
 simp
theorem lt_mid : decide ((pre.length : Int) < ((pre ++ x :: r).length : Int)) = true := by
 simp only [List.length_append, List.length_cons, decide_eq_true_eq]
 omega
theorem ge_end : decide ((pre.length : Int) < ((pre ++ ([] : List α)).length : Int)) = false := by
 simp
theorem wrap_mid (h : (pre ++ x :: r).length ≤ 4611686018427387904) : IntKind.wrap .i64 ((pre.length : Int) + 1) = ((pre ++ [x]).length : Int) := by
 simp only [List.length_append, List.length_cons, List.length_nil] at h ⊢
 rw [wrap64 (by omega) (by omega)]
 omega
theorem mid_cons : pre ++ x :: r = (pre ++ [x]) ++ r := by simp
theorem fuel0 : Int.toNat ((l.length : Int) - 0) + 1 = l.length + 1 := by simp
theorem appO_ok {b : Nat} {l r : List α} (h : (l.length + r.length) * b ≤ 140737488355328) (h0 : 0 < b) : appO b l r = some (l ++ r) := by
 unfold appO
 have h1 : l.length + r.length ≤ (l.length + r.length) * b := Nat.le_mul_of_pos_right _ h0
 rw [if_pos ⟨h, by rw [maxLen_eq]; omega⟩]
end
theorem byteAt_mid {pre r : List UInt8} {x : UInt8} : byteAt (pre ++ x :: r) (pre.length : Int) = some x := by
 unfold byteAt
 rw [if_pos (by omega)]
 simp
theorem at?_last {α : Type} {pre r : List α} (h : pre ≠ []) (hb : pre.length ≤ 4611686018427387904) : at? (pre ++ r) (IntKind.wrap .i64 ((pre.length : Int) - 1)) = pre.getLast? := by
 have hp : 0 < pre.length := List.length_pos_iff.2 h
 rw [wrap64 (by omega) (by omega)]
 unfold at?
 rw [if_pos (by omega), List.getLast?_eq_getElem?]
 have e : ((pre.length : Int) - 1).toNat = pre.length - 1 := by omega
 rw [e, List.getElem?_append_left (by omega)]
def letter (b : UInt8) : Bool := (decide (97 ≤ b.toNat) && decide (b.toNat ≤ 122)) || (decide (65 ≤ b.toNat) && decide (b.toNat ≤ 90))
def inner (b : UInt8) : Bool := letter b || (decide (48 ≤ b.toNat) && decide (b.toNat ≤ 57)) || b.toNat == 95
theorem class_all : ((List.range 256).all fun n => match lexer_class (n : Int) with | some c => ((c == 1) == letter n.toUInt8) && ((c == 1 || c == 2 || c == 3) == inner n.toUInt8) | none => false) = true := by kernel_rfl
theorem class_eq (b : UInt8) : ∃ c, lexer_class (b.toNat : Int) = some c ∧ (c == 1) = letter b ∧ (c == 1 || c == 2 || c == 3) = inner b := by
 have h := List.all_eq_true.1 class_all b.toNat (List.mem_range.2 (UInt8.toNat_lt b))
 split at h
 · rename_i c hc
   rw [Bool.and_eq_true, beq_iff_eq, beq_iff_eq] at h
   have e : b.toNat.toUInt8 = b := by simp
   rw [e] at h
   exact ⟨c, hc, h.1, h.2⟩
 · cases h
def word (s : List UInt8) : Int :=
 match s with
 | [] => 3
 | b :: r => if letter b = false then 3 else if (b :: r).all inner = false then 3 else if 24 < (b :: r).length then 17 else 0
theorem word_cons (b : UInt8) (r : List UInt8) : word (b :: r) = if letter b = false then 3 else if (b :: r).all inner = false then 3 else if 24 < (b :: r).length then 17 else 0 := rfl
theorem wrap01 : IntKind.wrap .i64 1 = 1 := by kernel_rfl
theorem wrap11 : IntKind.wrap .i64 2 = 2 := by kernel_rfl
theorem wrap21 : IntKind.wrap .i64 3 = 3 := by kernel_rfl
theorem run_in {s : List UInt8} {i : Int} {b : UInt8} (k3 : Bool → Option Int) (h : byteAt s i = some b) : lexer_run_loop2 s [1, 2, 3] i k3 4 false 0 = k3 (inner b) := by
 obtain ⟨c, h1, h2, h3⟩ := class_eq b
 rw [← h3]
 by_cases e1 : c = 1
 · simp [lexer_run_loop2, at?, h, h1, e1, wrap01, wrap11, wrap21]
 · by_cases e2 : c = 2
   · simp [lexer_run_loop2, at?, h, h1, e2, wrap01, wrap11, wrap21]
   · by_cases e3 : c = 3
     · simp [lexer_run_loop2, at?, h, h1, e3, wrap01, wrap11, wrap21]
     · have q : (c == 1 || c == 2 || c == 3) = (c == 3) := by simp [e1, e2]
       rw [q]
       simp [lexer_run_loop2, at?, h, h1, e1, e2, e3, wrap01, wrap11, wrap21]
theorem run_loop (s : List UInt8) (k : Option Int) (hb : s.length ≤ 4611686018427387904) : ∀ (r pre : List UInt8), s = pre ++ r → lexer_run_loop1 s [1, 2, 3] k (r.length + 1) (pre.length : Int) = if r.all inner = true then k else some ((pre.length + (r.takeWhile inner).length : Nat) : Int)
 | [], pre, e => by
  unfold lexer_run_loop1
  rw [e, ge_end]
  simp
 | x :: r, pre, e => by
  unfold lexer_run_loop1 joinK
  dsimp only
  have hf : (Int.toNat (((([1, 2, 3] : List Int).length : Nat) : Int) - 0) + 1) = 4 := rfl
  rw [e, lt_mid, if_pos rfl, wrap_mid (x := x) (r := r) (by rw [← e]; exact hb), ← e, hf, run_in _ (by rw [e]; exact byteAt_mid)]
  have ih := run_loop s k hb r (pre ++ [x]) (by rw [e, mid_cons])
  cases hx : inner x
  · simp [hx]
  · simp only [hx, Bool.not_true, Bool.false_eq_true, if_false]
    refine ih.trans ?_
    simp only [List.all_cons, hx, Bool.true_and, List.takeWhile_cons, if_true, List.length_append, List.length_cons, List.length_nil]
    split
    · rfl
    · congr 2
      omega
theorem run_eq (s : List UInt8) (hb : s.length ≤ 4611686018427387904) : ∃ n, lexer_run s [1, 2, 3] = some n ∧ (n != (s.length : Int)) = !(s.all inner) := by
 unfold lexer_run joinK
 rw [fuel0]
 have e0 := run_loop s (some (s.length : Int)) hb s [] rfl
 simp only [List.length_nil, Int.natCast_zero] at e0
 simp only [e0]
 cases h : s.all inner
 · refine ⟨_, rfl, ?_⟩
   have hlt : (s.takeWhile inner).length < s.length := by
    clear e0
    induction s with
    | nil => simp at h
    | cons x r ih =>
     rw [List.takeWhile_cons]
     cases hx : inner x
     · simp
     · rw [List.all_cons, hx, Bool.true_and] at h
       simp only [if_true, List.length_cons]
       have := ih (by simp at hb; omega) h
       omega
   simp only [Nat.zero_add, Bool.not_false, bne_iff_ne, ne_eq]
   omega
 · exact ⟨_, rfl, by simp⟩
theorem lword_eq (s : List UInt8) (hb : s.length ≤ 4611686018427387904) : lexer_Word s = some (word s) := by
 unfold lexer_Word
 cases s with
 | nil => rfl
 | cons b r =>
  have h0 : byteAt (b :: r) 0 = some b := rfl
  obtain ⟨c, h1, h2, _⟩ := class_eq b
  obtain ⟨n, h3, h4⟩ := run_eq (b :: r) hb
  have hn : ((b :: r) == []) = false := rfl
  simp only [hn, Bool.false_eq_true, if_false, h0, Option.bind_some, h1, h3, h4]
  have h2' : (c != 1) = !(letter b) := by rw [← h2]; rfl
  rw [h2', word_cons]
  cases letter b with
  | false => rfl
  | true =>
   cases (b :: r).all inner with
   | false => rfl
   | true =>
    have h24 : ∃ c : Bool, decide (((b :: r).length : Int) > 24) = c ∧ (if 24 < (b :: r).length then (17 : Int) else 0) = if c = true then 17 else 0 := by
     by_cases q : 24 < (b :: r).length
     · exact ⟨true, decide_eq_true (by omega), by rw [if_pos q]; rfl⟩
     · exact ⟨false, decide_eq_false (by omega), by rw [if_neg q]; rfl⟩
    obtain ⟨c24, g1, g2⟩ := h24
    rw [g1, g2]
    cases c24 <;> rfl
theorem inner_all : ((List.range 256).all fun n => (ref12_inner (n : Int) == some (inner n.toUInt8)) && (ref12_Letter (n : Int) == some (letter n.toUInt8))) = true := by kernel_rfl
theorem inner_eq (b : UInt8) : ref12_inner (b.toNat : Int) = some (inner b) ∧ ref12_Letter (b.toNat : Int) = some (letter b) := by
 have h := List.all_eq_true.1 inner_all b.toNat (List.mem_range.2 (UInt8.toNat_lt b))
 rw [Bool.and_eq_true, beq_iff_eq, beq_iff_eq] at h
 have e : b.toNat.toUInt8 = b := by simp
 rw [e] at h
 exact h
theorem rword_loop (s : List UInt8) (k : Option Int) (hb : s.length ≤ 4611686018427387904) : ∀ (r pre : List UInt8), s = pre ++ r → ref12_Word_loop1 s k (r.length + 1) (pre.length : Int) = if r.all inner = true then k else some 3
 | [], pre, e => by
  unfold ref12_Word_loop1
  rw [e, ge_end]
  simp
 | x :: r, pre, e => by
  unfold ref12_Word_loop1
  rw [e, lt_mid, if_pos rfl, wrap_mid (x := x) (r := r) (by rw [← e]; exact hb), byteAt_mid, Option.bind_some, (inner_eq x).1, Option.bind_some, ← e]
  have ih := rword_loop s k hb r (pre ++ [x]) (by rw [e, mid_cons])
  cases hx : inner x
  · simp [hx]
  · simp only [Bool.not_true, Bool.false_eq_true, if_false]
    refine ih.trans ?_
    simp only [List.all_cons, hx, Bool.true_and]
theorem rword_eq (s : List UInt8) (hb : s.length ≤ 4611686018427387904) : ref12_Word s = some (word s) := by
 unfold ref12_Word joinK
 cases s with
 | nil => rfl
 | cons b r =>
  have h0 : byteAt (b :: r) 0 = some b := rfl
  have e0 := rword_loop (b :: r) (if (decide (((b :: r).length : Int) > 24)) = true then some 17 else some 0) hb (b :: r) [] rfl
  simp only [List.length_nil, Int.natCast_zero] at e0
  have hn : ((((b :: r).length : Nat) : Int) == 0) = false := by simp; omega
  rw [fuel0]
  simp only [hn, Bool.false_eq_true, if_false, h0, Option.bind_some, (inner_eq b).2, e0]
  rw [word_cons]
  cases letter b with
  | false => rfl
  | true =>
   cases (b :: r).all inner with
   | false => rfl
   | true =>
    have h24 : ∃ c : Bool, decide (((b :: r).length : Int) > 24) = c ∧ (if 24 < (b :: r).length then (17 : Int) else 0) = if c = true then 17 else 0 := by
     by_cases q : 24 < (b :: r).length
     · exact ⟨true, decide_eq_true (by omega), by rw [if_pos q]; rfl⟩
     · exact ⟨false, decide_eq_false (by omega), by rw [if_neg q]; rfl⟩
    obtain ⟨c24, g1, g2⟩ := h24
    rw [g1, g2]
    cases c24 <;> rfl
instance (s : List UInt8) : Decidable (noLead s) := by unfold noLead; infer_instance
def num (s : List UInt8) : Int := if s = [] then 3 else if s.all isD = false then 3 else if ¬ noLead s then 3 else if 7 < s.length then 17 else 0
theorem num_zero {s : List UInt8} : num s = 0 ↔ s ≠ [] ∧ (∀ b ∈ s, isD b = true) ∧ noLead s ∧ s.length ≤ 7 := by
 unfold num
 constructor
 · intro h
   split at h
   · cases h
   · rename_i h1
     split at h
     · cases h
     · rename_i h2
       split at h
       · cases h
       · rename_i h3
         split at h
         · cases h
         · rename_i h4
           exact ⟨h1, List.all_eq_true.1 (by simpa using h2), Decidable.not_not.1 h3, by omega⟩
 · rintro ⟨h1, h2, h3, h4⟩
   rw [if_neg h1, if_neg (by rw [List.all_eq_true.2 h2]; simp), if_neg (fun q => q h3), if_neg (by omega)]
def signs : List UInt8 := [43, 45, 42, 47, 40, 41, 91, 93, 123, 125, 60, 62, 61, 44, 59, 58, 124, 38, 33, 35, 46]
def signB (b : UInt8) : Bool := signs.contains b
def blank (b : UInt8) : Bool := b == 32 || b == 10
def chkS (wait : Int) (last : Int) : List Stroke → Int
 | [] => if wait < 0 ∨ wait > 1000000 then 2 else 0
 | y :: r => if ¬ (0 ≤ y.actuator ∧ y.actuator < 6) then 2 else if y.actuator = last then 7 else if y.actuator < last then 9 else chkS wait y.actuator r
def chk (x : Step) : Int := if x.strokes.length = 0 then 13 else if 6 < x.strokes.length then 5 else chkS x.wait (-1) x.strokes
theorem known_eq (n : Int) : stroke_known n = some (decide (0 ≤ n ∧ n < 6)) ∧ ref13_Actuator n = some (decide (0 ≤ n ∧ n < 6)) := by
 unfold stroke_known ref13_Actuator
 have : (decide (n ≥ 0) && decide (n < 6)) = decide (0 ≤ n ∧ n < 6) := by
  rw [Bool.eq_iff_iff, Bool.and_eq_true, decide_eq_true_eq, decide_eq_true_eq, decide_eq_true_eq]
 rw [this]
 exact ⟨rfl, rfl⟩
theorem lchk_loop (x : Step) (hl : x.strokes.length ≤ 100) : ∀ (r pre : List Stroke) (last : Int), x.strokes = pre ++ r → stroke_CheckStep_loop1 x (if ((decide (x.wait < 0)) || (decide (x.wait > 1000000))) = true then some 2 else some 0) (r.length + 1) last (pre.length : Int) = some (chkS x.wait last r)
 | [], pre, last, e => by
  unfold stroke_CheckStep_loop1
  rw [e, ge_end, chkS]
  by_cases h : x.wait < 0 ∨ x.wait > 1000000
  · rw [if_pos h]; simp [h]
  · rw [if_neg h]; simp [h]
 | y :: r, pre, last, e => by
  have ih := lchk_loop x hl r (pre ++ [y]) y.actuator (by rw [e, mid_cons])
  unfold stroke_CheckStep_loop1
  rw [e, lt_mid, if_pos rfl, at?_mid, Option.bind_some, (known_eq _).1, Option.bind_some, wrap_mid (x := y) (r := r) (by rw [← e]; omega), chkS]
  rw [List.length_cons, ih]
  simp only [Bool.not_eq_true', decide_eq_false_iff_not, beq_iff_eq, decide_eq_true_eq]
  repeat' split
  all_goals first | rfl | (exfalso; omega)
theorem lchk_eq (x : Step) : stroke_CheckStep x = some (chk x) := by
 unfold stroke_CheckStep chk
 by_cases h0 : x.strokes.length = 0
 · rw [if_pos (by simp [h0]), if_pos h0]
 · rw [if_neg (by simpa using h0), if_neg h0]
   by_cases h6 : 6 < x.strokes.length
   · rw [if_pos (by rw [decide_eq_true_eq]; omega), if_pos h6]
   · rw [if_neg (by rw [decide_eq_true_eq]; omega), if_neg h6]
     unfold joinK
     dsimp only
     rw [fuel0]
     exact lchk_loop x (by omega) x.strokes [] (-1) rfl
def prevA (pre : List Stroke) : Int := match pre.getLast? with | none => -1 | some z => z.actuator
theorem prevA_nil : prevA [] = -1 := rfl
theorem prevA_snoc (pre : List Stroke) (y : Stroke) : prevA (pre ++ [y]) = y.actuator := by unfold prevA; simp
theorem prevA_of {pre : List Stroke} {z : Stroke} (h : pre.getLast? = some z) : prevA pre = z.actuator := by unfold prevA; rw [h]
theorem rchk_loop (x : Step) (hl : x.strokes.length ≤ 100) : ∀ (r pre : List Stroke), x.strokes = pre ++ r → (∀ z ∈ pre, 0 ≤ z.actuator) → ref13_CheckStep_loop1 x ((ref03_Time x.wait).bind fun r2 => if (!r2) = true then some 2 else some 0) (r.length + 1) (pre.length : Int) = some (chkS x.wait (prevA pre) r)
 | [], pre, e, _ => by
  unfold ref13_CheckStep_loop1 ref03_Time
  rw [e, ge_end, chkS]
  by_cases h : x.wait < 0 ∨ x.wait > 1000000
  · rw [if_pos h]
    have : ¬ (0 ≤ x.wait ∧ x.wait ≤ 1000000) := by omega
    simp
    omega
  · rw [if_neg h]
    simp
    omega
 | y :: r, pre, e, hp => by
  have hlen : x.strokes.length = pre.length + (r.length + 1) := by rw [e]; simp
  have hat : at? x.strokes (pre.length : Int) = some y := by rw [e]; exact at?_mid
  unfold ref13_CheckStep_loop1
  rw [if_pos (by rw [decide_eq_true_eq]; omega), hat]
  simp only [Option.bind_some]
  rw [(known_eq _).2, Option.bind_some, chkS, wrap64 (x := (pre.length : Int) + 1) (by omega) (by omega)]
  by_cases h1 : 0 ≤ y.actuator ∧ y.actuator < 6
  · have ih := rchk_loop x hl r (pre ++ [y]) (by rw [e, mid_cons]) (fun z hz => by
     rcases List.mem_append.1 hz with hz | hz
     · exact hp z hz
     · rw [List.mem_singleton.1 hz]; exact h1.1)
    have e2 : (((pre ++ [y]).length : Nat) : Int) = (pre.length : Int) + 1 := by simp
    rw [e2, prevA_snoc] at ih
    rw [List.length_cons, ih]
    by_cases hpe : pre = []
    · subst hpe
      have c0 : decide ((([] : List Stroke).length : Int) > 0) = false := by simp
      rw [c0, prevA_nil]
      simp only [Bool.false_eq_true, if_false, Option.bind_some, Bool.not_eq_true', decide_eq_false_iff_not]
      have hneg : ¬ y.actuator = -1 ∧ ¬ y.actuator < -1 := by omega
      rw [if_neg hneg.1, if_neg hneg.2]
      repeat' split
      all_goals first | rfl | (exfalso; omega)
    · obtain ⟨z, hz⟩ : ∃ z, pre.getLast? = some z := ⟨pre.getLast hpe, List.getLast?_eq_some_getLast hpe⟩
      have hpos : 0 < pre.length := List.length_pos_iff.2 hpe
      have hprev : at? x.strokes (IntKind.wrap .i64 ((pre.length : Int) - 1)) = some z := by rw [e, at?_last hpe (by omega), hz]
      have c1 : decide ((pre.length : Int) > 0) = true := decide_eq_true (by omega)
      rw [c1, hprev, prevA_of hz]
      simp only [if_true, Option.bind_some, Bool.not_eq_true', decide_eq_false_iff_not, beq_iff_eq, decide_eq_true_eq]
      repeat' split
      all_goals first | rfl | (exfalso; omega)
  · rw [decide_eq_false h1]
    simp [h1]
theorem rchk_eq (x : Step) : ref13_CheckStep x = some (chk x) := by
 unfold ref13_CheckStep chk
 by_cases h0 : x.strokes.length = 0
 · rw [if_pos (by simp [h0]), if_pos h0]
 · rw [if_neg (by simpa using h0), if_neg h0]
   by_cases h6 : 6 < x.strokes.length
   · rw [if_pos (by rw [decide_eq_true_eq]; omega), if_pos h6]
   · rw [if_neg (by rw [decide_eq_true_eq]; omega), if_neg h6]
     unfold joinK
     dsimp only
     rw [fuel0]
     exact rchk_loop x (by omega) x.strokes [] rfl (by simp)
def Asc (last : Int) : List Stroke → Prop
 | [] => True
 | y :: r => 0 ≤ y.actuator ∧ y.actuator < 6 ∧ last < y.actuator ∧ Asc y.actuator r
structure GoodS (x : Step) : Prop where
 ne : x.strokes ≠ []
 few : x.strokes.length ≤ 6
 asc : Asc (-1) x.strokes
 w0 : 0 ≤ x.wait
 w1 : x.wait ≤ 1000000
theorem chkS_zero {w : Int} : ∀ {r : List Stroke} {last : Int}, chkS w last r = 0 ↔ Asc last r ∧ 0 ≤ w ∧ w ≤ 1000000
 | [], last => by
  rw [chkS, Asc]
  split
  · simp; omega
  · simp; omega
 | y :: r, last => by
  rw [chkS, Asc]
  split
  · rename_i h; simp; omega
  · rename_i h1
    split
    · rename_i h; simp; omega
    · rename_i h2
      split
      · rename_i h; simp; omega
      · rename_i h3
        rw [chkS_zero]
        have : 0 ≤ y.actuator ∧ y.actuator < 6 := Decidable.not_not.1 h1
        constructor
        · rintro ⟨a, b⟩; exact ⟨⟨this.1, this.2, by omega, a⟩, b⟩
        · rintro ⟨⟨_, _, _, a⟩, b⟩; exact ⟨a, b⟩
theorem chk_zero {x : Step} : chk x = 0 ↔ GoodS x := by
 unfold chk
 constructor
 · intro h
   split at h
   · cases h
   · rename_i h0
     split at h
     · cases h
     · rename_i h6
       obtain ⟨a, b, c⟩ := chkS_zero.1 h
       exact ⟨fun q => h0 (by rw [q]; rfl), by omega, a, b, c⟩
 · rintro ⟨a, b, c, d, e⟩
   have : 0 < x.strokes.length := List.length_pos_iff.2 a
   rw [if_neg (by omega), if_neg (by omega)]
   exact chkS_zero.2 ⟨c, d, e⟩
def wr (y : Stroke) : List UInt8 := [UInt8.ofNat (65 + y.actuator.toNat), if y.out then 43 else 45]
def decT (n : Int) : List UInt8 := Lib.decDigits n.toNat
def words (x : Step) : List (List UInt8) := x.strokes.map wr ++ (if x.wait > 0 then [decT x.wait] else [])
theorem rsame_loop (a b : List Stroke) (hl : a.length = b.length) (hb : a.length ≤ 100000) : ∀ (r q pre pre2 : List Stroke), a = pre ++ r → b = pre2 ++ q → pre.length = pre2.length → ref13_SameStrokes_loop1 a b (some true) (r.length + 1) (pre.length : Int) = some (r == q)
 | [], q, pre, pre2, ea, eb, hp => by
  unfold ref13_SameStrokes_loop1
  have : q = [] := by
   have h1 : a.length = pre.length := by rw [ea]; simp
   have h2 : b.length = pre2.length + q.length := by rw [eb]; simp
   exact List.eq_nil_of_length_eq_zero (by omega)
  subst this
  rw [if_neg (by rw [ea]; simp)]
  rfl
 | y :: r, q, pre, pre2, ea, eb, hp => by
  have h1 : a.length = pre.length + (r.length + 1) := by rw [ea]; simp
  have h2 : b.length = pre2.length + q.length := by rw [eb]; simp
  cases q with
  | nil => simp at h2; omega
  | cons z q =>
   have ih := rsame_loop a b hl hb r q (pre ++ [y]) (pre2 ++ [z]) (by rw [ea, mid_cons]) (by rw [eb, mid_cons]) (by simp [hp])
   have ha : at? a (pre.length : Int) = some y := by rw [ea]; exact at?_mid
   have hbz : at? b (pre.length : Int) = some z := by rw [hp, eb]; exact at?_mid
   have e2 : (((pre ++ [y]).length : Nat) : Int) = (pre.length : Int) + 1 := by simp
   rw [e2] at ih
   unfold ref13_SameStrokes_loop1
   rw [if_pos (by rw [decide_eq_true_eq]; omega), ha, hbz]
   simp only [Option.bind_some]
   rw [wrap64 (x := (pre.length : Int) + 1) (by omega) (by omega), List.length_cons, ih, List.cons_beq_cons]
   cases y == z <;> rfl
theorem rsameK_eq (a b : List Stroke) (hb : a.length ≤ 100000) : ref13_SameStrokes a b = some (a == b) := by
 unfold ref13_SameStrokes
 by_cases h : a.length = b.length
 · rw [if_neg (by simp [h])]
   unfold joinK
   dsimp only
   rw [fuel0]
   exact rsame_loop a b h hb a b [] [] rfl rfl rfl
 · rw [if_pos (by simp; omega)]
   congr 1
   symm
   rw [beq_eq_false_iff_ne]
   intro q
   exact h (by rw [q])
def sameB (a b : Step) : Bool := a.wait == b.wait && a.strokes == b.strokes
theorem rsame_eq (a b : Step) (hb : a.strokes.length ≤ 100000) : ref13_Same a b = some (sameB a b) := by
 unfold ref13_Same sameB
 rw [rsameK_eq _ _ hb]
 cases a.wait == b.wait <;> rfl
theorem sameB_refl (a : Step) : sameB a a = true := by unfold sameB; simp
theorem sameL_loop (a : List Step) (hl : a.length ≤ 100000) (hs : ∀ x ∈ a, x.strokes.length ≤ 100000) : ∀ (r pre : List Step), a = pre ++ r → ref13_SameSteps_loop1 a a (some true) (r.length + 1) (pre.length : Int) = some true
 | [], pre, e => by
  unfold ref13_SameSteps_loop1
  rw [e, ge_end]
  simp
 | x :: r, pre, e => by
  have hat : at? a (pre.length : Int) = some x := by rw [e]; exact at?_mid
  have hlen : a.length = pre.length + (r.length + 1) := by rw [e]; simp
  have ih := sameL_loop a hl hs r (pre ++ [x]) (by rw [e, mid_cons])
  have e2 : (((pre ++ [x]).length : Nat) : Int) = (pre.length : Int) + 1 := by simp
  rw [e2] at ih
  unfold ref13_SameSteps_loop1
  rw [if_pos (by rw [decide_eq_true_eq]; omega), hat]
  simp only [Option.bind_some]
  rw [rsame_eq x x (hs x (by rw [e]; simp)), sameB_refl, wrap64 (x := (pre.length : Int) + 1) (by omega) (by omega)]
  exact ih
theorem sameL_eq (a : List Step) (hl : a.length ≤ 100000) (hs : ∀ x ∈ a, x.strokes.length ≤ 100000) : ref13_SameSteps a a = some true := by
 unfold ref13_SameSteps
 rw [if_neg (by simp)]
 unfold joinK
 dsimp only
 rw [fuel0]
 exact sameL_loop a hl hs a [] rfl
def setL (l : List Bool) : List Stroke → List Bool
 | [] => l
 | y :: r => setL (l.set y.actuator.toNat y.out) r
def suit1 (ends : List Bool) (y : Stroke) : Bool := match ends[y.actuator.toNat]? with | none => false | some b => b != y.out
def suitsB (x : Step) (ends : List Bool) : Bool := x.strokes.all (suit1 ends)
def turn (y : Stroke) : Stroke := ⟨y.actuator, !y.out⟩
theorem step_mid {α : Type} {l pre r : List α} {x : α} (e : l = pre ++ x :: r) (h : l.length ≤ 4611686018427387904) :
 decide ((pre.length : Int) < (l.length : Int)) = true ∧ at? l (pre.length : Int) = some x ∧ IntKind.wrap .i64 ((pre.length : Int) + 1) = ((pre ++ [x]).length : Int) ∧ l = (pre ++ [x]) ++ r ∧ l.length = pre.length + (r.length + 1) := by
 subst e
 exact ⟨lt_mid, at?_mid, wrap_mid h, mid_cons, by simp⟩
theorem end_mid {α : Type} {l pre : List α} (e : l = pre ++ []) : decide ((pre.length : Int) < (l.length : Int)) = false := by
 subst e
 exact ge_end
def Ends6.l (x : Ends6) : List Bool := [x.a0, x.a1, x.a2, x.a3, x.a4, x.a5]
def fitE (n : Int) (x : Step) (ends : List Bool) : Int := if chk x ≠ 0 then chk x else if ∃ y ∈ x.strokes, n ≤ y.actuator then 6 else if suitsB x ends = true then 0 else 14
def flat (l : List Step) : List Stroke := l.flatMap (·.strokes)
def runE (n : Int) (l : List Bool) : List Step → Int × List Bool
 | [] => (0, l)
 | x :: r => if fitE n x l ≠ 0 then (fitE n x l, l) else runE n (setL l x.strokes) r
def allMove (n : Int) (L : List Stroke) : Bool := (List.range n.toNat).all fun i => L.any fun y => y.actuator == (i : Int)
def zeros (n : Nat) : List Bool := List.replicate n false
def checkE (s : Sequence) : Int :=
 if s.actuators < 1 ∨ 6 < s.actuators then 2 else if s.steps.length = 0 then 13 else if 64 < s.steps.length then 5
 else if (runE s.actuators (zeros s.actuators.toNat) s.steps).1 ≠ 0 then (runE s.actuators (zeros s.actuators.toNat) s.steps).1
 else if true ∈ (runE s.actuators (zeros s.actuators.toNat) s.steps).2 then 9 else if allMove s.actuators (flat s.steps) = true then 0 else 13
def behL (l : List Bool) (r : List Step) : List Bool := r.foldl (fun l x => setL l x.strokes) l
structure RightS (s : Sequence) : Prop where
 n0 : 1 ≤ s.actuators
 n1 : s.actuators ≤ 6
 l0 : s.steps ≠ []
 l1 : s.steps.length ≤ 64
 good : ∀ x ∈ s.steps, GoodS x ∧ ∀ y ∈ x.strokes, y.actuator < s.actuators
 fit : ∀ pre x q, s.steps = pre ++ x :: q → suitsB x (behL (zeros s.actuators.toNat) pre) = true
 last : true ∉ behL (zeros s.actuators.toNat) s.steps
 all : allMove s.actuators (flat s.steps) = true
def ofF (n : Int) (L : List Stroke) : Int := L.foldl (fun m y => if y.actuator + 1 > m then y.actuator + 1 else m) n
end Go.Proofs.YtgpfgnpdbmbknaaGreatDoor.W
