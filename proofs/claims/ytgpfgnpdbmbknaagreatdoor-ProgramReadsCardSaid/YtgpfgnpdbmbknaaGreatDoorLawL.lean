import Derived.Test.YtgpfgnpdbmbknaaGreatDoorPlain
import Derived.Test.YtgpfgnpdbmbknaaGreatDoorLibN
import Derived.Lib.Join
import Derived.Lib.IndexMore
set_option linter.unusedVariables false
set_option linter.unusedSimpArgs false
set_option maxHeartbeats 2000000
namespace Go.Proofs.YtgpfgnpdbmbknaaGreatDoor.W
open Go Go.RowKit
theorem wrap64 {x : Int} (h : -9223372036854775808 ≤ x) (k : x ≤ 9223372036854775807) : IntKind.wrap .i64 x = x := by
 unfold IntKind.wrap
 simp [IntKind.bits, IntKind.signed]
 split <;> omega
theorem maxLen_eq : maxLen = 9223372036854775807 := by decide
section
variable {α : Type} {x : α} {pre r l : List α}
theorem at?_mid : at? (pre ++ x :: r) (pre.length : Int) = some x := by
 unfold at?
 rw [if_pos (by omega)]
 simp
theorem lt_mid : decide ((pre.length : Int) < ((pre ++ x :: r).length : Int)) = true := by
 simp only [List.length_append, List.length_cons, decide_eq_true_eq]
 omega
theorem ge_end : decide ((pre.length : Int) < ((pre ++ ([] : List α)).length : Int)) = false := by
 simp
theorem wrap_mid (h : (pre ++ x :: r).length ≤ 4611686018427387904) : IntKind.wrap .i64 ((pre.length : Int) + 1) = ((pre ++ [x]).length : Int) := by
 simp only [List.length_append, List.length_cons, List.length_nil] at h ⊢
 rw [wrap64 (by omega) (by omega)]
 omega
theorem mid_cons : pre ++ x :: r = (pre ++ [x]) ++ r := by simp
theorem fuel0 : Int.toNat ((l.length : Int) - 0) + 1 = l.length + 1 := by simp
theorem appO_ok {b : Nat} {l r : List α} (h : (l.length + r.length) * b ≤ 140737488355328) (h0 : 0 < b) : appO b l r = some (l ++ r) := by
 unfold appO
 have h1 : l.length + r.length ≤ (l.length + r.length) * b := Nat.le_mul_of_pos_right _ h0
 rw [if_pos ⟨h, by rw [maxLen_eq]; omega⟩]
end
theorem byteAt_mid {pre r : List UInt8} {x : UInt8} : byteAt (pre ++ x :: r) (pre.length : Int) = some x := by
 unfold byteAt
 rw [if_pos (by omega)]
 simp
theorem catO_small {s t : List UInt8} (h : s.length + t.length ≤ 1000000000) : catO s t = some (s ++ t) := by
 unfold catO
 rw [if_pos (Nat.le_trans h (by decide))]
theorem ite_dec {α : Type} {p : Prop} [Decidable p] {a b : α} : (if decide p = true then a else b) = if p then a else b := by
 by_cases h : p <;> simp [h]
theorem at?_last {α : Type} {pre r : List α} (h : pre ≠ []) (hb : pre.length ≤ 4611686018427387904) : at? (pre ++ r) (IntKind.wrap .i64 ((pre.length : Int) - 1)) = pre.getLast? := by
 have hp : 0 < pre.length := List.length_pos_iff.2 h
 rw [wrap64 (by omega) (by omega)]
 unfold at?
 rw [if_pos (by omega), List.getLast?_eq_getElem?]
 have e : ((pre.length : Int) - 1).toNat = pre.length - 1 := by omega
 rw [e, List.getElem?_append_left (by omega)]
theorem cut_drop {s : List UInt8} {i : Nat} (h : i ≤ s.length) : cut s (i : Int) (s.length : Int) = some (s.drop i) := by
 unfold cut
 rw [if_pos ⟨by omega, by omega, by omega⟩, List.take_of_length_le (by simp)]
 simp
def letter (b : UInt8) : Bool := (decide (97 ≤ b.toNat) && decide (b.toNat ≤ 122)) || (decide (65 ≤ b.toNat) && decide (b.toNat ≤ 90))
def inner (b : UInt8) : Bool := letter b || (decide (48 ≤ b.toNat) && decide (b.toNat ≤ 57)) || b.toNat == 95
theorem class_all : ((List.range 256).all fun n => match lexer_class (n : Int) with | some c => ((c == 1) == letter n.toUInt8) && ((c == 1 || c == 2 || c == 3) == inner n.toUInt8) | none => false) = true := by kernel_rfl
theorem class_eq (b : UInt8) : ∃ c, lexer_class (b.toNat : Int) = some c ∧ (c == 1) = letter b ∧ (c == 1 || c == 2 || c == 3) = inner b := by
 have h := List.all_eq_true.1 class_all b.toNat (List.mem_range.2 (UInt8.toNat_lt b))
 split at h
 · rename_i c hc
   rw [Bool.and_eq_true, beq_iff_eq, beq_iff_eq] at h
   have e : b.toNat.toUInt8 = b := by simp
   rw [e] at h
   exact ⟨c, hc, h.1, h.2⟩
 · cases h
def word (s : List UInt8) : Int :=
 match s with
 | [] => 3
 | b :: r => if letter b = false then 3 else if (b :: r).all inner = false then 3 else if 24 < (b :: r).length then 17 else 0
theorem word_cons (b : UInt8) (r : List UInt8) : word (b :: r) = if letter b = false then 3 else if (b :: r).all inner = false then 3 else if 24 < (b :: r).length then 17 else 0 := rfl
theorem wrap01 : IntKind.wrap .i64 1 = 1 := by kernel_rfl
theorem wrap11 : IntKind.wrap .i64 2 = 2 := by kernel_rfl
theorem wrap21 : IntKind.wrap .i64 3 = 3 := by kernel_rfl
theorem run_in {s : List UInt8} {i : Int} {b : UInt8} (k3 : Bool → Option Int) (h : byteAt s i = some b) : lexer_run_loop2 s [1, 2, 3] i k3 4 false 0 = k3 (inner b) := by
 obtain ⟨c, h1, h2, h3⟩ := class_eq b
 rw [← h3]
 by_cases e1 : c = 1
 · simp [lexer_run_loop2, at?, h, h1, e1, wrap01, wrap11, wrap21]
 · by_cases e2 : c = 2
   · simp [lexer_run_loop2, at?, h, h1, e2, wrap01, wrap11, wrap21]
   · by_cases e3 : c = 3
     · simp [lexer_run_loop2, at?, h, h1, e3, wrap01, wrap11, wrap21]
     · have q : (c == 1 || c == 2 || c == 3) = (c == 3) := by simp [e1, e2]
       rw [q]
       simp [lexer_run_loop2, at?, h, h1, e1, e2, e3, wrap01, wrap11, wrap21]
theorem run_loop (s : List UInt8) (k : Option Int) (hb : s.length ≤ 4611686018427387904) : ∀ (r pre : List UInt8), s = pre ++ r → lexer_run_loop1 s [1, 2, 3] k (r.length + 1) (pre.length : Int) = if r.all inner = true then k else some ((pre.length + (r.takeWhile inner).length : Nat) : Int)
 | [], pre, e => by
  unfold lexer_run_loop1
  rw [e, ge_end]
  simp
 | x :: r, pre, e => by
  unfold lexer_run_loop1 joinK
  dsimp only
  have hf : (Int.toNat (((([1, 2, 3] : List Int).length : Nat) : Int) - 0) + 1) = 4 := rfl
  rw [e, lt_mid, if_pos rfl, wrap_mid (x := x) (r := r) (by rw [← e]; exact hb), ← e, hf, run_in _ (by rw [e]; exact byteAt_mid)]
  have ih := run_loop s k hb r (pre ++ [x]) (by rw [e, mid_cons])
  cases hx : inner x
  · simp [hx]
  · simp only [hx, Bool.not_true, Bool.false_eq_true, if_false]
    refine ih.trans ?_
    simp only [List.all_cons, hx, Bool.true_and, List.takeWhile_cons, if_true, List.length_append, List.length_cons, List.length_nil]
    split
    · rfl
    · congr 2
      omega
theorem run_eq (s : List UInt8) (hb : s.length ≤ 4611686018427387904) : ∃ n, lexer_run s [1, 2, 3] = some n ∧ (n != (s.length : Int)) = !(s.all inner) := by
 unfold lexer_run joinK
 rw [fuel0]
 have e0 := run_loop s (some (s.length : Int)) hb s [] rfl
 simp only [List.length_nil, Int.natCast_zero] at e0
 simp only [e0]
 cases h : s.all inner
 · refine ⟨_, rfl, ?_⟩
   have hlt : (s.takeWhile inner).length < s.length := by
    clear e0
    induction s with
    | nil => simp at h
    | cons x r ih =>
     rw [List.takeWhile_cons]
     cases hx : inner x
     · simp
     · rw [List.all_cons, hx, Bool.true_and] at h
       simp only [if_true, List.length_cons]
       have := ih (by simp at hb; omega) h
       omega
   simp only [Nat.zero_add, Bool.not_false, bne_iff_ne, ne_eq]
   omega
 · exact ⟨_, rfl, by simp⟩
theorem lword_eq (s : List UInt8) (hb : s.length ≤ 4611686018427387904) : lexer_Word s = some (word s) := by
 unfold lexer_Word
 cases s with
 | nil => rfl
 | cons b r =>
  have h0 : byteAt (b :: r) 0 = some b := rfl
  obtain ⟨c, h1, h2, _⟩ := class_eq b
  obtain ⟨n, h3, h4⟩ := run_eq (b :: r) hb
  have hn : ((b :: r) == []) = false := rfl
  simp only [hn, Bool.false_eq_true, if_false, h0, Option.bind_some, h1, h3, h4]
  have h2' : (c != 1) = !(letter b) := by rw [← h2]; rfl
  rw [h2', word_cons]
  cases letter b with
  | false => rfl
  | true =>
   cases (b :: r).all inner with
   | false => rfl
   | true =>
    have h24 : ∃ c : Bool, decide (((b :: r).length : Int) > 24) = c ∧ (if 24 < (b :: r).length then (17 : Int) else 0) = if c = true then 17 else 0 := by
     by_cases q : 24 < (b :: r).length
     · exact ⟨true, decide_eq_true (by omega), by rw [if_pos q]; rfl⟩
     · exact ⟨false, decide_eq_false (by omega), by rw [if_neg q]; rfl⟩
    obtain ⟨c24, g1, g2⟩ := h24
    rw [g1, g2]
    cases c24 <;> rfl
theorem inner_all : ((List.range 256).all fun n => (ref12_inner (n : Int) == some (inner n.toUInt8)) && (ref12_Letter (n : Int) == some (letter n.toUInt8))) = true := by kernel_rfl
theorem inner_eq (b : UInt8) : ref12_inner (b.toNat : Int) = some (inner b) ∧ ref12_Letter (b.toNat : Int) = some (letter b) := by
 have h := List.all_eq_true.1 inner_all b.toNat (List.mem_range.2 (UInt8.toNat_lt b))
 rw [Bool.and_eq_true, beq_iff_eq, beq_iff_eq] at h
 have e : b.toNat.toUInt8 = b := by simp
 rw [e] at h
 exact h
theorem rword_loop (s : List UInt8) (k : Option Int) (hb : s.length ≤ 4611686018427387904) : ∀ (r pre : List UInt8), s = pre ++ r → ref12_Word_loop1 s k (r.length + 1) (pre.length : Int) = if r.all inner = true then k else some 3
 | [], pre, e => by
  unfold ref12_Word_loop1
  rw [e, ge_end]
  simp
 | x :: r, pre, e => by
  unfold ref12_Word_loop1
  rw [e, lt_mid, if_pos rfl, wrap_mid (x := x) (r := r) (by rw [← e]; exact hb), byteAt_mid, Option.bind_some, (inner_eq x).1, Option.bind_some, ← e]
  have ih := rword_loop s k hb r (pre ++ [x]) (by rw [e, mid_cons])
  cases hx : inner x
  · simp [hx]
  · simp only [Bool.not_true, Bool.false_eq_true, if_false]
    refine ih.trans ?_
    simp only [List.all_cons, hx, Bool.true_and]
theorem rword_eq (s : List UInt8) (hb : s.length ≤ 4611686018427387904) : ref12_Word s = some (word s) := by
 unfold ref12_Word joinK
 cases s with
 | nil => rfl
 | cons b r =>
  have h0 : byteAt (b :: r) 0 = some b := rfl
  have e0 := rword_loop (b :: r) (if (decide (((b :: r).length : Int) > 24)) = true then some 17 else some 0) hb (b :: r) [] rfl
  simp only [List.length_nil, Int.natCast_zero] at e0
  have hn : ((((b :: r).length : Nat) : Int) == 0) = false := by simp; omega
  rw [fuel0]
  simp only [hn, Bool.false_eq_true, if_false, h0, Option.bind_some, (inner_eq b).2, e0]
  rw [word_cons]
  cases letter b with
  | false => rfl
  | true =>
   cases (b :: r).all inner with
   | false => rfl
   | true =>
    have h24 : ∃ c : Bool, decide (((b :: r).length : Int) > 24) = c ∧ (if 24 < (b :: r).length then (17 : Int) else 0) = if c = true then 17 else 0 := by
     by_cases q : 24 < (b :: r).length
     · exact ⟨true, decide_eq_true (by omega), by rw [if_pos q]; rfl⟩
     · exact ⟨false, decide_eq_false (by omega), by rw [if_neg q]; rfl⟩
    obtain ⟨c24, g1, g2⟩ := h24
    rw [g1, g2]
    cases c24 <;> rfl
instance (s : List UInt8) : Decidable (noLead s) := by unfold noLead; infer_instance
def num (s : List UInt8) : Int := if s = [] then 3 else if s.all isD = false then 3 else if ¬ noLead s then 3 else if 7 < s.length then 17 else 0
theorem num_zero {s : List UInt8} : num s = 0 ↔ s ≠ [] ∧ (∀ b ∈ s, isD b = true) ∧ noLead s ∧ s.length ≤ 7 := by
 unfold num
 constructor
 · intro h
   split at h
   · cases h
   · rename_i h1
     split at h
     · cases h
     · rename_i h2
       split at h
       · cases h
       · rename_i h3
         split at h
         · cases h
         · rename_i h4
           exact ⟨h1, List.all_eq_true.1 (by simpa using h2), Decidable.not_not.1 h3, by omega⟩
 · rintro ⟨h1, h2, h3, h4⟩
   rw [if_neg h1, if_neg (by rw [List.all_eq_true.2 h2]; simp), if_neg (fun q => q h3), if_neg (by omega)]
theorem num_dec {n : Nat} (h : n ≤ 9999999) : num (Lib.decDigits n) = 0 := num_zero.2 ⟨dec_ne n, dec_all n, dec_lead n, dec_len 6 n (by omega)⟩
theorem wrapU8 {x : Int} (h : 0 ≤ x) (k : x ≤ 255) : IntKind.wrap .u8 x = x := by
 simp only [IntKind.wrap, IntKind.signed, IntKind.bits]
 simp
 omega
theorem digit_step {b : UInt8} (h : isD b = true) : IntKind.wrap .i64 (IntKind.wrap .u8 ((b.toNat : Int) - 48)) = ((b.toNat - 48 : Nat) : Int) := by
 have := isD_iff.1 h
 rw [wrapU8 (by omega) (by omega), wrap64 (by omega) (by omega)]
 omega
theorem class2_all : ((List.range 256).all fun n => match lexer_class (n : Int) with | some c => (c == 2) == isD n.toUInt8 | none => false) = true := by kernel_rfl
theorem class2_eq (b : UInt8) : ∃ c, lexer_class (b.toNat : Int) = some c ∧ (c == 2) = isD b := by
 have h := List.all_eq_true.1 class2_all b.toNat (List.mem_range.2 (UInt8.toNat_lt b))
 split at h
 · rename_i c hc
   rw [beq_iff_eq] at h
   have e : b.toNat.toUInt8 = b := by simp
   rw [e] at h
   exact ⟨c, hc, h⟩
 · cases h
theorem run_in2 {s : List UInt8} {i : Int} {b : UInt8} (k3 : Bool → Option Int) (h : byteAt s i = some b) : lexer_run_loop2 s [2] i k3 2 false 0 = k3 (isD b) := by
 obtain ⟨c, h1, h2⟩ := class2_eq b
 rw [← h2]
 by_cases e1 : c = 2
 · simp [lexer_run_loop2, at?, h, h1, e1, wrap01]
 · simp [lexer_run_loop2, at?, h, h1, e1, wrap01]
theorem run_loopD (s : List UInt8) (k : Option Int) (hb : s.length ≤ 4611686018427387904) : ∀ (r pre : List UInt8), s = pre ++ r → lexer_run_loop1 s [2] k (r.length + 1) (pre.length : Int) = if r.all isD = true then k else some ((pre.length + (r.takeWhile isD).length : Nat) : Int)
 | [], pre, e => by
  unfold lexer_run_loop1
  rw [e, ge_end]
  simp
 | x :: r, pre, e => by
  unfold lexer_run_loop1 joinK
  dsimp only
  have hf : (Int.toNat (((([2] : List Int).length : Nat) : Int) - 0) + 1) = 2 := rfl
  rw [e, lt_mid, if_pos rfl, wrap_mid (x := x) (r := r) (by rw [← e]; exact hb), ← e, hf, run_in2 _ (by rw [e]; exact byteAt_mid)]
  have ih := run_loopD s k hb r (pre ++ [x]) (by rw [e, mid_cons])
  cases hx : isD x
  · simp [hx]
  · simp only [hx, Bool.not_true, Bool.false_eq_true, if_false]
    refine ih.trans ?_
    simp only [List.all_cons, hx, Bool.true_and, List.takeWhile_cons, if_true, List.length_append, List.length_cons, List.length_nil]
    split
    · rfl
    · congr 2
      omega
theorem takeWhile_lt {p : UInt8 → Bool} : ∀ {s : List UInt8}, s.all p = false → (s.takeWhile p).length < s.length
 | [], h => by simp at h
 | x :: r, h => by
  rw [List.takeWhile_cons]
  cases hx : p x
  · simp
  · rw [List.all_cons, hx, Bool.true_and] at h
    simp only [if_true, List.length_cons]
    have := takeWhile_lt h
    omega
theorem runD_eq (s : List UInt8) (hb : s.length ≤ 4611686018427387904) : lexer_run s [2] = some (if s.all isD = true then (s.length : Int) else (((s.takeWhile isD).length : Nat) : Int)) := by
 unfold lexer_run joinK
 rw [fuel0]
 have e0 := run_loopD s (some (s.length : Int)) hb s [] rfl
 simp only [List.length_nil, Int.natCast_zero, Nat.zero_add] at e0
 simp only [e0]
 split <;> rfl
theorem lead_iff (b : UInt8) (r : List UInt8) : noLead (b :: r) ↔ ¬ (b = 48 ∧ r ≠ []) := by
 unfold noLead
 constructor
 · rintro (h | h) ⟨h1, h2⟩
   · cases r with
     | nil => exact h2 rfl
     | cons _ _ => simp at h
   · exact h (by rw [h1]; rfl)
 · intro h
   by_cases h2 : r = []
   · left; rw [h2]; simp
   · right
     intro h1
     exact h ⟨by simpa using h1, h2⟩
theorem b48 (b : UInt8) : ((b.toNat : Int) == 48) = (b == 48) := by
 rw [Bool.eq_iff_iff, beq_iff_eq, beq_iff_eq]
 constructor
 · intro h
   exact UInt8.toNat_inj.1 (by have : (48 : UInt8).toNat = 48 := rfl; omega)
 · intro h; rw [h]; rfl
theorem lnum_eq (s : List UInt8) (hb : s.length ≤ 4611686018427387904) : lexer_Number s = some (num s) := by
 unfold lexer_Number
 cases s with
 | nil => rfl
 | cons b r =>
  have h0 : byteAt (b :: r) 0 = some b := rfl
  have hn : ((b :: r) == []) = false := rfl
  rw [runD_eq (b :: r) hb]
  simp only [hn, Bool.false_eq_true, if_false, h0, Option.bind_some, b48]
  unfold num
  rw [if_neg (show ¬ (b :: r = ([] : List UInt8)) by simp)]
  cases ha : (b :: r).all isD
  · have := takeWhile_lt ha
    have hne : ((((b :: r).takeWhile isD).length : Nat) : Int) != (((b :: r).length : Nat) : Int) := by
     rw [bne_iff_ne]; omega
    simp only [Bool.false_eq_true, if_false, hne, if_true, Option.bind_some]
  · have hne : ((((b :: r).length : Nat) : Int) != (((b :: r).length : Nat) : Int)) = false := by simp
    simp only [if_true, hne, Bool.false_eq_true, if_false, Option.bind_some]
    have hl := lead_iff b r
    have e : (b == 48 && !(b :: r == [48])) = !(decide (noLead (b :: r))) := by
     rw [Bool.eq_iff_iff, Bool.and_eq_true, beq_iff_eq, Bool.not_eq_true', Bool.not_eq_true', beq_eq_false_iff_ne, decide_eq_false_iff_not, hl, Decidable.not_not]
     constructor
     · rintro ⟨h1, h2⟩; exact ⟨h1, fun q => h2 (by rw [h1, q])⟩
     · rintro ⟨h1, h2⟩; exact ⟨h1, fun q => h2 (by cases q; rfl)⟩
    rw [e]
    by_cases hq : noLead (b :: r)
    · rw [if_neg (show ¬ ((!decide (noLead (b :: r))) = true) by simp [hq]), if_neg (show ¬ (true = false) by simp), if_neg (show ¬ ¬ noLead (b :: r) from fun q => q hq), ite_dec]
      have h7 : ((((b :: r).length : Nat) : Int) > 7) ↔ 7 < (b :: r).length := by omega
      simp only [h7]
      split <;> rfl
    · rw [if_pos (show (!decide (noLead (b :: r))) = true by simp [hq]), if_neg (show ¬ (true = false) by simp), if_pos hq]
theorem cut_tail (b : UInt8) (r : List UInt8) : cut (b :: r) 1 (((b :: r).length : Nat) : Int) = some r := by
 unfold cut
 rw [if_pos ⟨by omega, by simp only [List.length_cons]; omega, by omega⟩]
 simp
def valS (s : List UInt8) : Int × Int :=
 if s.head? = some 45 then (if num s.tail ≠ 0 then (0, num s.tail) else if s.tail = [48] then (0, 3) else (-((numV s.tail : Nat) : Int), 0))
 else if num s ≠ 0 then (0, num s) else (((numV s : Nat) : Int), 0)
theorem valS_neg (r : List UInt8) : valS (45 :: r) = if num r ≠ 0 then (0, num r) else if r = [48] then (0, 3) else (-((numV r : Nat) : Int), 0) := if_pos rfl
theorem valS_pos {s : List UInt8} (h : ¬ s.head? = some 45) : valS s = if num s ≠ 0 then (0, num s) else (((numV s : Nat) : Int), 0) := if_neg h
theorem prefix_eq (s : List UInt8) (c : UInt8) (hb : s.length ≤ 4611686018427387904) : strings_CutPrefix s [c] = some (if s.head? = some c then (s.tail, true) else (s, false)) := by
 unfold strings_CutPrefix internal_stringslite_CutPrefix internal_stringslite_HasPrefix
 cases s with
 | nil => rfl
 | cons b r =>
  have c1 : decide ((((b :: r).length : Nat) : Int) ≥ ((([c] : List UInt8).length : Nat) : Int)) = true := decide_eq_true (by simp only [List.length_cons, List.length_nil]; omega)
  have c2 : cut (b :: r) 0 ((([c] : List UInt8).length : Nat) : Int) = some [b] := by
   unfold cut
   rw [if_pos ⟨by omega, by simp only [List.length_cons, List.length_nil]; omega, by simp only [List.length_cons, List.length_nil]; omega⟩]
   rfl
  have c3 : cut (b :: r) ((([c] : List UInt8).length : Nat) : Int) (((b :: r).length : Nat) : Int) = some r := by
   unfold cut
   rw [if_pos ⟨by simp, by simp only [List.length_cons, List.length_nil]; omega, by simp⟩]
   simp
  simp only [c1, if_true, c2, c3, Option.bind_some]
  by_cases h : b = c
  · subst h
    simp
  · have : (([b] : List UInt8) == [c]) = false := by
     rw [beq_eq_false_iff_ne]
     intro q; cases q; exact h rfl
    rw [if_neg (show ¬ ((b :: r).head? = some c) by simpa using h)]
    simp [this]
theorem atoi_loop (s : List UInt8) (k : Int → Option (Int × Unit)) (hl : s.length ≤ 7) (hd : ∀ b ∈ s, isD b = true) : ∀ (r pre : List UInt8), s = pre ++ r →
 internal_strconv_Atoi_loop1 s k (r.length + 1) ((numV pre : Nat) : Int) (pre.length : Int) = k ((numV s : Nat) : Int)
 | [], pre, e => by
  unfold internal_strconv_Atoi_loop1
  have : decide ((pre.length : Int) < ((bytesI s).length : Int)) = false := decide_eq_false (by rw [e]; simp [bytesI])
  rw [if_neg (by rw [this]; decide), e, List.append_nil]
 | x :: r, pre, e => by
  unfold internal_strconv_Atoi_loop1
  have hx : isD x = true := hd x (by rw [e]; simp)
  have hb := isD_iff.1 hx
  have hlen : pre.length + (r.length + 1) = s.length := by rw [e]; simp
  have : decide ((pre.length : Int) < ((bytesI s).length : Int)) = true := decide_eq_true (by simp only [bytesI, List.length_map]; omega)
  have e1 : at? (bytesI s) (pre.length : Int) = some ((x.toNat : Nat) : Int) := by
   have e2 : bytesI s = bytesI pre ++ ((x.toNat : Nat) : Int) :: bytesI r := by rw [e]; simp [bytesI]
   have e3 : (pre.length : Int) = ((bytesI pre).length : Int) := by simp [bytesI]
   rw [e2, e3, at?_mid]
  have hlt : numV pre < 10 ^ pre.length := numV_lt pre (fun b hb => hd b (by rw [e]; simp [hb]))
  have hp : (10 : Nat) ^ pre.length ≤ 1000000 := Nat.le_trans (Nat.pow_le_pow_right (by omega) (show pre.length ≤ 6 by omega)) (by decide)
  have c1 : decide (IntKind.wrap .u8 (((x.toNat : Nat) : Int) - 48) > 9) = false := by
   rw [wrapU8 (by omega) (by omega)]
   exact decide_eq_false (by omega)
  have w1 : IntKind.wrap .i64 (((numV pre : Nat) : Int) * 10) = ((numV pre : Nat) : Int) * 10 := wrap64 (by omega) (by omega)
  have w2 : IntKind.wrap .i64 (((numV pre : Nat) : Int) * 10 + ((x.toNat - 48 : Nat) : Int)) = ((numV (pre ++ [x]) : Nat) : Int) := by
   rw [wrap64 (by omega) (by omega), numV_snoc]
   omega
  have w3 : IntKind.wrap .i64 ((pre.length : Int) + 1) = (((pre ++ [x]).length : Nat) : Int) := by
   rw [wrap64 (by omega) (by omega)]; simp
  rw [if_pos this, e1]
  simp only [Option.bind_some, c1, Bool.false_eq_true, if_false, digit_step hx, w1, w2, w3]
  exact atoi_loop s k hl hd r (pre ++ [x]) (by rw [e, mid_cons])
theorem atoi_pos (b : UInt8) (r : List UInt8) (hl : (b :: r).length ≤ 7) (hd : ∀ c ∈ b :: r, isD c = true) : strconv_Atoi (b :: r) = some (((numV (b :: r) : Nat) : Int), ()) := by
 have hb := isD_iff.1 (hd b (by simp))
 have e0 : byteAt (b :: r) 0 = some b := rfl
 have n45 : ((b.toNat : Int) == 45) = false := by simp; omega
 have n43 : ((b.toNat : Int) == 43) = false := by simp; omega
 have c1 : decide ((0 : Int) < ((b :: r).length : Int)) = true := decide_eq_true (by simp only [List.length_cons]; omega)
 have c2 : decide (((b :: r).length : Int) < 19) = true := decide_eq_true (by simp at hl ⊢; omega)
 have hf : (Int.toNat (((bytesI (b :: r)).length : Int) - 0) + 1) = (b :: r).length + 1 := by simp [bytesI]
 unfold strconv_Atoi internal_strconv_Atoi joinK
 have lp := fun k => atoi_loop (b :: r) k hl hd (b :: r) [] rfl
 simp only [c1, c2, Bool.and_self, if_true, e0, Option.bind_some, n45, n43, Bool.false_eq_true, if_false, hf]
 simp only [List.length_nil, Int.natCast_zero, show ((numV [] : Nat) : Int) = 0 from rfl] at lp
 simp only [lp, Option.bind_some]
theorem atoi_neg (b : UInt8) (r : List UInt8) (hl : (b :: r).length ≤ 7) (hd : ∀ c ∈ b :: r, isD c = true) : strconv_Atoi (45 :: b :: r) = some (-((numV (b :: r) : Nat) : Int), ()) := by
 have e0 : byteAt (45 :: b :: r) 0 = some 45 := rfl
 have n45 : (((45 : UInt8).toNat : Int) == 45) = true := rfl
 have c1 : decide ((0 : Int) < ((45 :: b :: r).length : Int)) = true := decide_eq_true (by simp only [List.length_cons]; omega)
 have c2 : decide (((45 :: b :: r).length : Int) < 19) = true := decide_eq_true (by simp at hl ⊢; omega)
 have hf : (Int.toNat (((bytesI (b :: r)).length : Int) - 0) + 1) = (b :: r).length + 1 := by simp [bytesI]
 have c3 : cut (45 :: b :: r) 1 ((45 :: b :: r).length : Int) = some (b :: r) := cut_tail 45 (b :: r)
 have c4 : decide ((((b :: r).length : Nat) : Int) < 1) = false := decide_eq_false (by simp only [List.length_cons]; omega)
 unfold strconv_Atoi internal_strconv_Atoi joinK
 have lp := fun k => atoi_loop (b :: r) k hl hd (b :: r) [] rfl
 simp only [List.length_nil, Int.natCast_zero, show ((numV [] : Nat) : Int) = 0 from rfl] at lp
 have hlt : numV (b :: r) < 10 ^ (b :: r).length := numV_lt _ hd
 have hp : (10 : Nat) ^ (b :: r).length ≤ 10000000 := Nat.le_trans (Nat.pow_le_pow_right (by omega) hl) (by decide)
 have w : IntKind.wrap .i64 (0 - ((numV (b :: r) : Nat) : Int)) = -((numV (b :: r) : Nat) : Int) := by rw [wrap64 (by omega) (by omega)]; omega
 simp only [c1, c2, Bool.and_self, if_true, e0, Option.bind_some, n45, Bool.false_eq_true, if_false, c3, c4, hf, lp, w]
theorem prefix_neg (r : List UInt8) (hb : (45 :: r).length ≤ 4611686018427387904) : strings_CutPrefix (45 :: r) [45] = some (r, true) := by
 rw [prefix_eq _ 45 hb]
 rfl
theorem prefix_pos {s : List UInt8} (hb : s.length ≤ 4611686018427387904) (h : ¬ s.head? = some 45) : strings_CutPrefix s [45] = some (s, false) := by
 rw [prefix_eq _ 45 hb, if_neg h]
theorem lval_eq (s : List UInt8) (hb : s.length ≤ 4611686018427387904) : lexer_Value s = some (valS s) := by
 unfold lexer_Value
 by_cases h : s.head? = some 45
 · obtain ⟨r, rfl⟩ : ∃ r, s = 45 :: r := by
    cases s with
    | nil => cases h
    | cons b r => cases h; exact ⟨r, rfl⟩
   have hr : r.length ≤ 4611686018427387904 := by simp at hb; omega
   rw [valS_neg, prefix_neg r hb]
   simp only [lnum_eq r hr, Option.bind_some, Bool.true_and]
   by_cases h0 : num r = 0
   · obtain ⟨q1, q2, q3, q4⟩ := num_zero.1 h0
     obtain ⟨b, t, rfl⟩ := List.exists_cons_of_ne_nil q1
     rw [h0, if_neg (show ¬ (((0 : Int) != 0) = true) by decide), if_neg (show ¬ ((0 : Int) ≠ 0) by decide)]
     by_cases h1 : (b :: t) = [48]
     · rw [if_pos (show ((b :: t) == [48]) = true from beq_iff_eq.2 h1), if_pos h1]
     · rw [if_neg (show ¬ (((b :: t) == [48]) = true) from fun q => h1 (beq_iff_eq.1 q)), if_neg h1, atoi_neg b t q4 q2]
       rfl
   · rw [if_pos (show (num r != 0) = true from bne_iff_ne.2 h0), if_pos h0]
 · rw [valS_pos h, prefix_pos hb h]
   simp only [lnum_eq s hb, Option.bind_some, Bool.false_and]
   by_cases h0 : num s = 0
   · obtain ⟨q1, q2, q3, q4⟩ := num_zero.1 h0
     obtain ⟨b, t, rfl⟩ := List.exists_cons_of_ne_nil q1
     rw [h0, if_neg (show ¬ (((0 : Int) != 0) = true) by decide), if_neg (show ¬ ((0 : Int) ≠ 0) by decide), if_neg (show ¬ (false = true) by decide), atoi_pos b t q4 q2]
     rfl
   · rw [if_pos (show (num s != 0) = true from bne_iff_ne.2 h0), if_pos h0]
theorem valS_dec {n : Nat} (h : n ≤ 9999999) : valS (Lib.decDigits n) = ((n : Int), 0) := by
 have h45 : ¬ (Lib.decDigits n).head? = some 45 := fun q => by
  obtain ⟨b, r, e⟩ := List.exists_cons_of_ne_nil (dec_ne n)
  rw [e] at q
  have := isD_iff.1 (dec_all n b (by rw [e]; simp))
  have e2 : b = 45 := by simpa using q
  rw [e2] at this
  have : (45 : UInt8).toNat = 45 := rfl
  omega
 rw [valS_pos h45, num_dec h, if_neg (show ¬ ((0 : Int) ≠ 0) by decide), dec_val]
def signs : List UInt8 := [43, 45, 42, 47, 40, 41, 91, 93, 123, 125, 60, 62, 61, 44, 59, 58, 124, 38, 33, 35, 46]
def signB (b : UInt8) : Bool := signs.contains b
def cls (b : UInt8) : Int := if letter b then 1 else if isD b then 2 else if b == 95 then 3 else if signB b then 4 else if b == 32 || b == 10 then 5 else 0
theorem clsL_all : ((List.range 256).all fun n => lexer_class (n : Int) == some (cls n.toUInt8)) = true := by kernel_rfl
theorem clsL_eq (b : UInt8) : lexer_class (b.toNat : Int) = some (cls b) := by
 have h := List.all_eq_true.1 clsL_all b.toNat (List.mem_range.2 (UInt8.toNat_lt b))
 have e : b.toNat.toUInt8 = b := by simp
 rw [beq_iff_eq, e] at h
 exact h
theorem all_take {p : UInt8 → Bool} : ∀ {s : List UInt8}, s.all p = true → s.takeWhile p = s
 | [], _ => rfl
 | b :: r, h => by
  rw [List.all_cons, Bool.and_eq_true] at h
  rw [List.takeWhile_cons, if_pos h.1, all_take h.2]
theorem runI_val (s : List UInt8) (hb : s.length ≤ 4611686018427387904) : lexer_run s [1, 2, 3] = some ((s.takeWhile inner).length : Int) := by
 unfold lexer_run joinK
 rw [fuel0]
 have e0 := run_loop s (some (s.length : Int)) hb s [] rfl
 simp only [List.length_nil, Int.natCast_zero] at e0
 refine Eq.trans e0 ?_
 cases h : s.all inner
 · simp
 · rw [if_pos rfl, all_take h]
theorem runD_val (s : List UInt8) (hb : s.length ≤ 4611686018427387904) : lexer_run s [2] = some ((s.takeWhile isD).length : Int) := by
 rw [runD_eq s hb]
 cases h : s.all isD
 · simp
 · rw [if_pos rfl, all_take h]
theorem run0_val (b : UInt8) (r : List UInt8) : lexer_run (b :: r) [] = some 0 := by
 unfold lexer_run joinK
 rw [fuel0]
 unfold lexer_run_loop1 joinK
 have h : decide ((0 : Int) < (((b :: r).length : Nat) : Int)) = true := decide_eq_true (by simp)
 dsimp only
 rw [if_pos h]
 rfl
theorem letter_isD {b : UInt8} (h : isD b = true) : letter b = false := by
 have := isD_iff.1 h
 unfold letter
 simp
 omega
def tk (s : List UInt8) : Int × Nat × Int := match s with
 | [] => (0, 0, 4)
 | b :: r => if letter b = true then (0, ((b :: r).takeWhile inner).length, word ((b :: r).takeWhile inner))
  else if isD b = true then (1, ((b :: r).takeWhile isD).length, num ((b :: r).takeWhile isD))
  else if signB b = true then (2, 1, 0) else (0, 0, 4)
def blank (b : UInt8) : Bool := b == 32 || b == 10
def scanS : Nat → List UInt8 → Nat → List Token × Option (Nat × Int)
 | 0, _, _ => ([], none)
 | _ + 1, [], _ => ([], none)
 | n + 1, b :: r, p => if blank b = true then scanS n r (p + 1) else
  if (tk (b :: r)).2.2 ≠ 0 then ([], some (p, (tk (b :: r)).2.2)) else
  (⟨(tk (b :: r)).1, (b :: r).take (tk (b :: r)).2.1, (p : Int)⟩ :: (scanS n ((b :: r).drop (tk (b :: r)).2.1) (p + (tk (b :: r)).2.1)).1, (scanS n ((b :: r).drop (tk (b :: r)).2.1) (p + (tk (b :: r)).2.1)).2)
theorem take_takeWhile {α : Type} (p : α → Bool) : ∀ s : List α, s.take (s.takeWhile p).length = s.takeWhile p
 | [] => rfl
 | b :: r => by
  rw [List.takeWhile_cons]
  split
  · rw [List.length_cons, List.take_succ_cons, take_takeWhile p r]
  · rfl
theorem takeWhile_le {α : Type} (p : α → Bool) (s : List α) : (s.takeWhile p).length ≤ s.length := by
 have := congrArg List.length (take_takeWhile p s)
 rw [List.length_take] at this
 omega
theorem letter_inner {b : UInt8} (h : letter b = true) : inner b = true := by unfold inner; rw [h]; rfl
theorem tk_len {b : UInt8} {r : List UInt8} (h : (tk (b :: r)).2.2 = 0) : 1 ≤ (tk (b :: r)).2.1 ∧ (tk (b :: r)).2.1 ≤ (b :: r).length := by
 unfold tk at h ⊢
 dsimp only at h ⊢
 by_cases h1 : letter b = true
 · rw [if_pos h1]
   refine ⟨?_, takeWhile_le _ _⟩
   dsimp only
   rw [List.takeWhile_cons, if_pos (letter_inner h1)]
   simp
 · rw [if_neg h1] at h ⊢
   by_cases h2 : isD b = true
   · rw [if_pos h2]
     refine ⟨?_, takeWhile_le _ _⟩
     dsimp only
     rw [List.takeWhile_cons, if_pos h2]
     simp
   · rw [if_neg h2] at h ⊢
     by_cases h3 : signB b = true
     · rw [if_pos h3]; simp
     · rw [if_neg h3] at h; simp at h
theorem cut_from {T pre r : List UInt8} (e : T = pre ++ r) : cut T (pre.length : Int) (T.length : Int) = some r := by
 rw [e, cut_drop (by simp)]
 simp
theorem cut_range {T pre r : List UInt8} {q : Nat} (e : T = pre ++ r) (hT : T.length ≤ 1000000) (hq : q ≤ r.length) : cut T (pre.length : Int) (IntKind.wrap .i64 ((pre.length : Int) + (q : Int))) = some (r.take q) := by
 have hl : T.length = pre.length + r.length := by rw [e]; simp
 rw [wrap64 (by omega) (by omega)]
 unfold cut
 rw [if_pos ⟨by omega, by omega, by omega⟩, e]
 congr 1
 rw [show ((pre.length : Int)).toNat = pre.length by omega, show ((pre.length : Int) + (q : Int)).toNat - pre.length = q by omega]
 simp
theorem blank_cls (b : UInt8) : (cls b == 5) = blank b := by
 have h : ((List.range 256).all fun n => (cls n.toUInt8 == 5) == blank n.toUInt8) = true := by kernel_rfl
 have := List.all_eq_true.1 h b.toNat (List.mem_range.2 (UInt8.toNat_lt b))
 have e : b.toNat.toUInt8 = b := by simp
 rw [e, beq_iff_eq] at this
 exact this
theorem cls_of_letter {b : UInt8} (h : letter b = true) : cls b = 1 := by unfold cls; rw [if_pos h]
theorem cls_of_digit {b : UInt8} (h : letter b = false) (h2 : isD b = true) : cls b = 2 := by unfold cls; rw [h, if_neg (by simp), if_pos h2]
theorem cls_of_sign {b : UInt8} (h : letter b = false) (h2 : isD b = false) (h3 : signB b = true) : cls b = 4 := by
 have q : ((List.range 256).all fun n => !(signB n.toUInt8) || !(letter n.toUInt8 == false) || !(isD n.toUInt8 == false) || cls n.toUInt8 == 4) = true := by kernel_rfl
 have := List.all_eq_true.1 q b.toNat (List.mem_range.2 (UInt8.toNat_lt b))
 have e : b.toNat.toUInt8 = b := by simp
 rw [e] at this
 simpa [h, h2, h3] using this
theorem cls_of_none {b : UInt8} (h : letter b = false) (h2 : isD b = false) (h3 : signB b = false) (h5 : blank b = false) : cls b = 0 ∨ cls b = 3 := by
 have q : ((List.range 256).all fun n => (signB n.toUInt8) || (letter n.toUInt8) || (isD n.toUInt8) || (blank n.toUInt8) || cls n.toUInt8 == 0 || cls n.toUInt8 == 3) = true := by kernel_rfl
 have := List.all_eq_true.1 q b.toNat (List.mem_range.2 (UInt8.toNat_lt b))
 have e : b.toNat.toUInt8 = b := by simp
 rw [e] at this
 simpa [h, h2, h3, h5] using this
theorem sub1 {n : Int} (h : 1 ≤ n) : (if n > 1 then n else 1) = n := by split <;> omega
def thenK (p : List Token × Option (Nat × Int)) (acc : List Token) (k : List Token → Option (List Token × Int × Int)) : Option (List Token × Int × Int) :=
 match p.2 with
 | none => k (acc ++ p.1)
 | some (q, e) => some ([], (q : Int), e)
theorem jscan_loop (T : List UInt8) (hT : T.length ≤ 4096) (k : List Token → Option (List Token × Int × Int)) : ∀ (n : Nat) (r pre : List UInt8) (acc : List Token) (f : Nat), r.length ≤ n → r.length < f → T = pre ++ r → acc.length ≤ pre.length →
 lexer_Scan_loop1 T k f (pre.length : Int) acc = thenK (scanS n r pre.length) acc k
 | n, [], pre, acc, 0, _, hf, _, _ => by simp at hf
 | n, [], pre, acc, f + 1, _, _, e, _ => by
  unfold lexer_Scan_loop1
  rw [e, ge_end]
  cases n <;> simp [scanS, thenK]
 | 0, b :: r, pre, acc, f, h, _, _, _ => by simp at h
 | n + 1, b :: r, pre, acc, 0, _, h, _, _ => by simp at h
 | n + 1, b :: r, pre, acc, f + 1, hn, hf, e, ha => by
  have hl : T.length = pre.length + (r.length + 1) := by rw [e]; simp
  have hn' : r.length ≤ n := by simpa using hn
  have hf' : r.length < f := by simpa using hf
  have hb : byteAt T (pre.length : Int) = some b := by rw [e]; exact byteAt_mid
  have c1 : decide ((pre.length : Int) < (T.length : Int)) = true := decide_eq_true (by omega)
  have hpre1 : IntKind.wrap .i64 ((pre.length : Int) + 1) = (((pre ++ [b]).length : Nat) : Int) := by rw [wrap64 (by omega) (by omega)]; simp
  unfold lexer_Scan_loop1
  rw [if_pos c1, hb, Option.bind_some, clsL_eq b, Option.bind_some, blank_cls, scanS]
  by_cases h5 : blank b = true
  · rw [if_pos h5, if_pos h5, hpre1]
    have := jscan_loop T hT k n r (pre ++ [b]) acc f hn' hf' (by rw [e, mid_cons]) (by simp; omega)
    rw [this]
    simp
  · have h5' : blank b = false := by simpa using h5
    simp only [h5', Bool.false_eq_true, if_false]
    rw [cut_from e]
    simp only [Option.bind_some]
    -- behind a token
    have step : ∀ (q : Nat) (kind : Int), 1 ≤ q → q ≤ (b :: r).length →
     lexer_Scan_loop1 T k f (IntKind.wrap .i64 ((pre.length : Int) + (q : Int))) (acc ++ [Token.mk kind ((b :: r).take q) (pre.length : Int)]) =
     thenK (scanS n ((b :: r).drop q) (pre.length + q)) (acc ++ [Token.mk kind ((b :: r).take q) (pre.length : Int)]) k := by
     intro q kind hq1 hq2
     have hq3 : q ≤ r.length + 1 := by simpa using hq2
     have el : (pre ++ (b :: r).take q).length = pre.length + q := by rw [List.length_append, List.length_take, Nat.min_eq_left hq2]
     have := jscan_loop T hT k n ((b :: r).drop q) (pre ++ (b :: r).take q) (acc ++ [Token.mk kind ((b :: r).take q) (pre.length : Int)]) f (by rw [List.length_drop, List.length_cons]; omega) (by rw [List.length_drop, List.length_cons]; omega)
      (by rw [e, List.append_assoc, List.take_append_drop]) (by rw [List.length_append, List.length_append, List.length_take, Nat.min_eq_left hq2]; simp; omega)
     rw [el] at this
     rw [wrap64 (by omega) (by omega), ← this]
     simp
    have thk : ∀ (q : Nat) (t : Token), thenK (scanS n ((b :: r).drop q) (pre.length + q)) (acc ++ [t]) k = thenK (t :: (scanS n ((b :: r).drop q) (pre.length + q)).1, (scanS n ((b :: r).drop q) (pre.length + q)).2) acc k := by
     intro q t
     unfold thenK
     cases (scanS n ((b :: r).drop q) (pre.length + q)).2 <;> simp
    have app : ∀ t : Token, appO 32 acc [t] = some (acc ++ [t]) := fun t => appO_ok (by simp; omega) (by decide)
    have n0 : ((0 : Int) != 0) = false := rfl
    have n4 : ((4 : Int) != 0) = true := rfl
    by_cases hL : letter b = true
    · have hq1 : 1 ≤ ((b :: r).takeWhile inner).length := by rw [List.takeWhile_cons, if_pos (letter_inner hL)]; simp
      have hq2 := takeWhile_le inner (b :: r)
      rw [cls_of_letter hL, if_neg (by decide), if_pos (by decide), runI_val _ (by simp at hq2 ⊢; omega), Option.bind_some, sub1 (by omega), cut_range e (by omega) hq2, take_takeWhile]
      simp only [Option.bind_some]
      rw [lword_eq _ (by simp at hq2 ⊢; omega), Option.bind_some]
      have ht : tk (b :: r) = (0, ((b :: r).takeWhile inner).length, word ((b :: r).takeWhile inner)) := by unfold tk; dsimp only; rw [if_pos hL]
      rw [ht]
      dsimp only
      by_cases hw : word ((b :: r).takeWhile inner) = 0
      · rw [hw, n0, if_neg (by simp), app, Option.bind_some, if_neg (by simp), if_neg (by simp)]
        have s1 := step _ 0 hq1 hq2
        rw [take_takeWhile, thk] at s1
        rw [take_takeWhile]
        exact s1
      · rw [if_pos (by simpa using hw), if_pos hw]
        rfl
    · have hL' : letter b = false := by simpa using hL
      by_cases hD : isD b = true
      · have hq1 : 1 ≤ ((b :: r).takeWhile isD).length := by rw [List.takeWhile_cons, if_pos hD]; simp
        have hq2 := takeWhile_le isD (b :: r)
        rw [cls_of_digit hL' hD, if_neg (by decide), if_neg (by decide), if_pos (by decide), runD_val _ (by simp at hq2 ⊢; omega), Option.bind_some, sub1 (by omega), cut_range e (by omega) hq2, take_takeWhile]
        simp only [Option.bind_some]
        rw [lnum_eq _ (by simp at hq2 ⊢; omega), Option.bind_some]
        have ht : tk (b :: r) = (1, ((b :: r).takeWhile isD).length, num ((b :: r).takeWhile isD)) := by unfold tk; dsimp only; rw [if_neg hL, if_pos hD]
        rw [ht]
        dsimp only
        by_cases hw : num ((b :: r).takeWhile isD) = 0
        · rw [hw, n0, if_neg (by simp), app, Option.bind_some, if_neg (by simp), if_neg (by simp)]
          have s1 := step _ 1 hq1 hq2
          rw [take_takeWhile, thk] at s1
          rw [take_takeWhile]
          exact s1
        · rw [if_pos (by simpa using hw), if_pos hw]
          rfl
      · have hD' : isD b = false := by simpa using hD
        by_cases hS : signB b = true
        · rw [cls_of_sign hL' hD' hS, if_neg (by decide), if_neg (by decide), if_neg (by decide), if_neg (by decide), if_pos (by decide), run0_val, Option.bind_some]
          have c01 : (if (0 : Int) > 1 then (0 : Int) else 1) = ((1 : Nat) : Int) := rfl
          have ht : tk (b :: r) = (2, 1, 0) := by unfold tk; dsimp only; rw [if_neg hL, if_neg hD, if_pos hS]
          rw [c01, cut_range e (by omega) (by simp), ht]
          simp only [Option.bind_some]
          rw [n0, if_neg (by simp), app, Option.bind_some, if_neg (by simp), if_neg (by simp)]
          have s1 := step 1 2 (by omega) (by simp)
          rw [thk] at s1
          exact s1
        · have hS' : signB b = false := by simpa using hS
          have ht : tk (b :: r) = (0, 0, 4) := by unfold tk; dsimp only; rw [if_neg hL, if_neg hD, if_neg hS]
          rcases cls_of_none hL' hD' hS' h5' with hc | hc
          · rw [hc, if_pos (by decide), if_pos (by decide), ht]; rfl
          · rw [hc, if_neg (by decide), if_neg (by decide), if_neg (by decide), if_pos (by decide), if_pos (by decide), ht]; rfl
def endT (s : List UInt8) : Token := ⟨3, [], (s.length : Int)⟩
def scanR (s : List UInt8) : List Token × Int × Int := if 4096 < s.length then ([], 0, 17) else
 match (scanS s.length s 0).2 with
 | none => ((scanS s.length s 0).1 ++ [endT s], 0, 0)
 | some (p, e) => ([], (p : Int), e)
theorem scanS_len : ∀ (n : Nat) (s : List UInt8) (p : Nat), (scanS n s p).1.length ≤ s.length
 | 0, _, _ => by simp [scanS]
 | _ + 1, [], _ => by simp [scanS]
 | n + 1, b :: r, p => by
  rw [scanS]
  split
  · have := scanS_len n r (p + 1); simp; omega
  · split
    · simp
    · rename_i h
      have h0 : (tk (b :: r)).2.2 = 0 := Decidable.not_not.1 h
      obtain ⟨hq1, hq2⟩ := tk_len h0
      have := scanS_len n ((b :: r).drop (tk (b :: r)).2.1) (p + (tk (b :: r)).2.1)
      rw [List.length_drop] at this
      simp only [List.length_cons] at this hq2 ⊢
      omega
theorem jscan_eq (s : List UInt8) : lexer_Scan s = some (scanR s) := by
 unfold lexer_Scan scanR
 by_cases h : 4096 < s.length
 · rw [if_pos (decide_eq_true (by omega)), if_pos h]
 · rw [if_neg (by rw [decide_eq_true_eq]; omega), if_neg h]
   unfold joinK
   dsimp only
   rw [fuel0]
   have := jscan_loop s (by omega) (fun l9 => if ((0 : Int) != 0) = true then some ([], (s.length : Int), 0) else (appO 32 l9 ([(Token.mk 3 [] (s.length : Int))] : List Token)).bind fun _ => some ((l9 ++ ([(Token.mk 3 [] (s.length : Int))] : List Token)), 0, 0)) s.length s [] [] (s.length + 1) (Nat.le_refl _) (by omega) rfl (by simp)
   refine Eq.trans this ?_
   unfold thenK
   have hl := scanS_len s.length s 0
   simp only [List.length_nil, List.nil_append]
   cases (scanS s.length s 0).2 with
   | none =>
    dsimp only
    rw [if_neg (by decide), appO_ok (by simp; omega) (by decide)]
    rfl
   | some q => rfl
def chkS (wait : Int) (last : Int) : List Stroke → Int
 | [] => if wait < 0 ∨ wait > 1000000 then 2 else 0
 | y :: r => if ¬ (0 ≤ y.actuator ∧ y.actuator < 6) then 2 else if y.actuator = last then 7 else if y.actuator < last then 9 else chkS wait y.actuator r
def chk (x : Step) : Int := if x.strokes.length = 0 then 13 else if 6 < x.strokes.length then 5 else chkS x.wait (-1) x.strokes
theorem known_eq (n : Int) : stroke_known n = some (decide (0 ≤ n ∧ n < 6)) ∧ ref13_Actuator n = some (decide (0 ≤ n ∧ n < 6)) := by
 unfold stroke_known ref13_Actuator
 have : (decide (n ≥ 0) && decide (n < 6)) = decide (0 ≤ n ∧ n < 6) := by
  rw [Bool.eq_iff_iff, Bool.and_eq_true, decide_eq_true_eq, decide_eq_true_eq, decide_eq_true_eq]
 rw [this]
 exact ⟨rfl, rfl⟩
theorem lchk_loop (x : Step) (hl : x.strokes.length ≤ 100) : ∀ (r pre : List Stroke) (last : Int), x.strokes = pre ++ r → stroke_CheckStep_loop1 x (if ((decide (x.wait < 0)) || (decide (x.wait > 1000000))) = true then some 2 else some 0) (r.length + 1) last (pre.length : Int) = some (chkS x.wait last r)
 | [], pre, last, e => by
  unfold stroke_CheckStep_loop1
  rw [e, ge_end, chkS]
  by_cases h : x.wait < 0 ∨ x.wait > 1000000
  · rw [if_pos h]; simp [h]
  · rw [if_neg h]; simp [h]
 | y :: r, pre, last, e => by
  have ih := lchk_loop x hl r (pre ++ [y]) y.actuator (by rw [e, mid_cons])
  unfold stroke_CheckStep_loop1
  rw [e, lt_mid, if_pos rfl, at?_mid, Option.bind_some, (known_eq _).1, Option.bind_some, wrap_mid (x := y) (r := r) (by rw [← e]; omega), chkS]
  rw [List.length_cons, ih]
  simp only [Bool.not_eq_true', decide_eq_false_iff_not, beq_iff_eq, decide_eq_true_eq]
  repeat' split
  all_goals first | rfl | (exfalso; omega)
theorem lchk_eq (x : Step) : stroke_CheckStep x = some (chk x) := by
 unfold stroke_CheckStep chk
 by_cases h0 : x.strokes.length = 0
 · rw [if_pos (by simp [h0]), if_pos h0]
 · rw [if_neg (by simpa using h0), if_neg h0]
   by_cases h6 : 6 < x.strokes.length
   · rw [if_pos (by rw [decide_eq_true_eq]; omega), if_pos h6]
   · rw [if_neg (by rw [decide_eq_true_eq]; omega), if_neg h6]
     unfold joinK
     dsimp only
     rw [fuel0]
     exact lchk_loop x (by omega) x.strokes [] (-1) rfl
def prevA (pre : List Stroke) : Int := match pre.getLast? with | none => -1 | some z => z.actuator
theorem prevA_nil : prevA [] = -1 := rfl
theorem prevA_snoc (pre : List Stroke) (y : Stroke) : prevA (pre ++ [y]) = y.actuator := by unfold prevA; simp
theorem prevA_of {pre : List Stroke} {z : Stroke} (h : pre.getLast? = some z) : prevA pre = z.actuator := by unfold prevA; rw [h]
theorem rchk_loop (x : Step) (hl : x.strokes.length ≤ 100) : ∀ (r pre : List Stroke), x.strokes = pre ++ r → (∀ z ∈ pre, 0 ≤ z.actuator) → ref13_CheckStep_loop1 x ((ref03_Time x.wait).bind fun r2 => if (!r2) = true then some 2 else some 0) (r.length + 1) (pre.length : Int) = some (chkS x.wait (prevA pre) r)
 | [], pre, e, _ => by
  unfold ref13_CheckStep_loop1 ref03_Time
  rw [e, ge_end, chkS]
  by_cases h : x.wait < 0 ∨ x.wait > 1000000
  · rw [if_pos h]
    have : ¬ (0 ≤ x.wait ∧ x.wait ≤ 1000000) := by omega
    simp
    omega
  · rw [if_neg h]
    simp
    omega
 | y :: r, pre, e, hp => by
  have hlen : x.strokes.length = pre.length + (r.length + 1) := by rw [e]; simp
  have hat : at? x.strokes (pre.length : Int) = some y := by rw [e]; exact at?_mid
  unfold ref13_CheckStep_loop1
  rw [if_pos (by rw [decide_eq_true_eq]; omega), hat]
  simp only [Option.bind_some]
  rw [(known_eq _).2, Option.bind_some, chkS, wrap64 (x := (pre.length : Int) + 1) (by omega) (by omega)]
  by_cases h1 : 0 ≤ y.actuator ∧ y.actuator < 6
  · have ih := rchk_loop x hl r (pre ++ [y]) (by rw [e, mid_cons]) (fun z hz => by
     rcases List.mem_append.1 hz with hz | hz
     · exact hp z hz
     · rw [List.mem_singleton.1 hz]; exact h1.1)
    have e2 : (((pre ++ [y]).length : Nat) : Int) = (pre.length : Int) + 1 := by simp
    rw [e2, prevA_snoc] at ih
    rw [List.length_cons, ih]
    by_cases hpe : pre = []
    · subst hpe
      have c0 : decide ((([] : List Stroke).length : Int) > 0) = false := by simp
      rw [c0, prevA_nil]
      simp only [Bool.false_eq_true, if_false, Option.bind_some, Bool.not_eq_true', decide_eq_false_iff_not]
      have hneg : ¬ y.actuator = -1 ∧ ¬ y.actuator < -1 := by omega
      rw [if_neg hneg.1, if_neg hneg.2]
      repeat' split
      all_goals first | rfl | (exfalso; omega)
    · obtain ⟨z, hz⟩ : ∃ z, pre.getLast? = some z := ⟨pre.getLast hpe, List.getLast?_eq_some_getLast hpe⟩
      have hpos : 0 < pre.length := List.length_pos_iff.2 hpe
      have hprev : at? x.strokes (IntKind.wrap .i64 ((pre.length : Int) - 1)) = some z := by rw [e, at?_last hpe (by omega), hz]
      have c1 : decide ((pre.length : Int) > 0) = true := decide_eq_true (by omega)
      rw [c1, hprev, prevA_of hz]
      simp only [if_true, Option.bind_some, Bool.not_eq_true', decide_eq_false_iff_not, beq_iff_eq, decide_eq_true_eq]
      repeat' split
      all_goals first | rfl | (exfalso; omega)
  · rw [decide_eq_false h1]
    simp [h1]
theorem rchk_eq (x : Step) : ref13_CheckStep x = some (chk x) := by
 unfold ref13_CheckStep chk
 by_cases h0 : x.strokes.length = 0
 · rw [if_pos (by simp [h0]), if_pos h0]
 · rw [if_neg (by simpa using h0), if_neg h0]
   by_cases h6 : 6 < x.strokes.length
   · rw [if_pos (by rw [decide_eq_true_eq]; omega), if_pos h6]
   · rw [if_neg (by rw [decide_eq_true_eq]; omega), if_neg h6]
     unfold joinK
     dsimp only
     rw [fuel0]
     exact rchk_loop x (by omega) x.strokes [] rfl (by simp)
def Asc (last : Int) : List Stroke → Prop
 | [] => True
 | y :: r => 0 ≤ y.actuator ∧ y.actuator < 6 ∧ last < y.actuator ∧ Asc y.actuator r
structure GoodS (x : Step) : Prop where
 ne : x.strokes ≠ []
 few : x.strokes.length ≤ 6
 asc : Asc (-1) x.strokes
 w0 : 0 ≤ x.wait
 w1 : x.wait ≤ 1000000
theorem chkS_zero {w : Int} : ∀ {r : List Stroke} {last : Int}, chkS w last r = 0 ↔ Asc last r ∧ 0 ≤ w ∧ w ≤ 1000000
 | [], last => by
  rw [chkS, Asc]
  split
  · simp; omega
  · simp; omega
 | y :: r, last => by
  rw [chkS, Asc]
  split
  · rename_i h; simp; omega
  · rename_i h1
    split
    · rename_i h; simp; omega
    · rename_i h2
      split
      · rename_i h; simp; omega
      · rename_i h3
        rw [chkS_zero]
        have : 0 ≤ y.actuator ∧ y.actuator < 6 := Decidable.not_not.1 h1
        constructor
        · rintro ⟨a, b⟩; exact ⟨⟨this.1, this.2, by omega, a⟩, b⟩
        · rintro ⟨⟨_, _, _, a⟩, b⟩; exact ⟨a, b⟩
theorem chk_zero {x : Step} : chk x = 0 ↔ GoodS x := by
 unfold chk
 constructor
 · intro h
   split at h
   · cases h
   · rename_i h0
     split at h
     · cases h
     · rename_i h6
       obtain ⟨a, b, c⟩ := chkS_zero.1 h
       exact ⟨fun q => h0 (by rw [q]; rfl), by omega, a, b, c⟩
 · rintro ⟨a, b, c, d, e⟩
   have : 0 < x.strokes.length := List.length_pos_iff.2 a
   rw [if_neg (by omega), if_neg (by omega)]
   exact chkS_zero.2 ⟨c, d, e⟩
theorem asc_mem : ∀ {r : List Stroke} {last : Int}, Asc last r → ∀ y ∈ r, 0 ≤ y.actuator ∧ y.actuator < 6 ∧ last < y.actuator
 | z :: r, last, h, y, hy => by
  rcases List.mem_cons.1 hy with rfl | hy
  · exact ⟨h.1, h.2.1, h.2.2.1⟩
  · obtain ⟨a, b, c⟩ := asc_mem h.2.2.2 y hy
    have := h.2.2.1
    exact ⟨a, b, by omega⟩
def wr (y : Stroke) : List UInt8 := [UInt8.ofNat (65 + y.actuator.toNat), if y.out then 43 else 45]
theorem enc_at : ∀ a : Fin 6, (Utf8.encode (IntKind.wrap .i32 (IntKind.wrap .i64 (65 + (a.val : Int))))).data.toList = [UInt8.ofNat (65 + a.val)] := by decide +kernel
theorem act_fin {n : Int} (h0 : 0 ≤ n) (h1 : n < 6) : ∃ a : Fin 6, n = (a.val : Int) ∧ n.toNat = a.val := ⟨⟨n.toNat, by omega⟩, by simp; omega, rfl⟩
theorem lwr_eq {y : Stroke} (h0 : 0 ≤ y.actuator) (h1 : y.actuator < 6) : stroke_written y = some (wr y) := by
 obtain ⟨a, ha, hb⟩ := act_fin h0 h1
 unfold stroke_written wr
 rw [hb, ha, enc_at]
 cases y.out
 · rw [if_neg (by simp), catO_small (by simp)]; rfl
 · rw [if_pos rfl, catO_small (by simp)]; rfl
def decT (n : Int) : List UInt8 := Lib.decDigits n.toNat
def words (x : Step) : List (List UInt8) := x.strokes.map wr ++ (if x.wait > 0 then [decT x.wait] else [])
def lineS (x : Step) : List UInt8 := Lib.join (words x) [32]
def textL (l : List Step) : List UInt8 := Lib.join (l.map lineS) [59, 32]
theorem dec7 {n : Nat} (h : n ≤ 1000000) : (Lib.decDigits n).length ≤ 7 := dec_len 6 n (by omega)
theorem itoa_eq {n : Int} (h0 : 0 ≤ n) (h1 : n ≤ 1000000) : itoa n = some (decT n) := by
 unfold itoa Lib.itoa decT
 rw [if_pos (by omega), if_neg (by omega)]
theorem wr_len (y : Stroke) : (wr y).length = 2 := rfl
theorem joinS_eq {l : List (List UInt8)} {sep : List UInt8} (h : l.length ≤ 1000000) (h2 : (Lib.join l sep).length ≤ 1000000) : joinS l sep = some (Lib.join l sep) := by
 unfold joinS
 rw [if_pos ⟨by omega, by omega⟩]
theorem join_len (sep : List UInt8) (n : Nat) : ∀ l : List (List UInt8), (∀ t ∈ l, t.length ≤ n) → (Lib.join l sep).length ≤ l.length * (n + sep.length)
 | [], _ => by rw [Lib.join_nil]; simp
 | x :: r, h => by
  have hx := h x (by simp)
  have : ∀ r : List (List UInt8), (∀ t ∈ r, t.length ≤ n) → (Lib.joinTail sep r).length ≤ r.length * (n + sep.length) := by
   intro r
   induction r with
   | nil => intro _; simp [Lib.joinTail]
   | cons y r ih =>
    intro h
    have hy := h y (by simp)
    have ih := ih (fun t ht => h t (by simp [ht]))
    unfold Lib.joinTail at ih ⊢
    rw [List.map_cons, List.flatten_cons, List.length_append, List.length_append, List.length_cons, Nat.add_mul]
    omega
  have := this r (fun t ht => h t (by simp [ht]))
  rw [Lib.join_cons, List.length_append, List.length_cons, Nat.add_mul]
  omega
theorem words_len {x : Step} (g : GoodS x) : (words x).length ≤ 7 ∧ ∀ t ∈ words x, t.length ≤ 7 := by
 have := g.few
 refine ⟨?_, fun t ht => ?_⟩
 · unfold words; split <;> simp <;> omega
 · unfold words at ht
   rcases List.mem_append.1 ht with ht | ht
   · obtain ⟨y, _, rfl⟩ := List.mem_map.1 ht
     rw [wr_len]; omega
   · split at ht
     · rw [List.mem_singleton.1 ht]; exact dec7 (by have := g.w1; omega)
     · simp at ht
theorem line_len {x : Step} (g : GoodS x) : (lineS x).length ≤ 56 := by
 obtain ⟨h1, h2⟩ := words_len g
 have := join_len [32] 7 (words x) h2
 unfold lineS
 simp only [List.length_singleton] at this
 omega
theorem text_len {l : List Step} (h : ∀ x ∈ l, GoodS x) (hl : l.length ≤ 64) : (textL l).length ≤ 4000 := by
 have := join_len [59, 32] 56 (l.map lineS) (fun t ht => by
  obtain ⟨x, hx, rfl⟩ := List.mem_map.1 ht
  exact line_len (h x hx))
 unfold textL
 rw [List.length_map] at this
 simp only [List.length_cons, List.length_nil] at this
 omega
def errL : List Step → Int
 | [] => 0
 | x :: r => if chk x ≠ 0 then chk x else errL r
theorem errL_cons {x : Step} {r : List Step} (h : chk x = 0) : errL (x :: r) = errL r := by rw [errL, if_neg (fun q => q h)]
theorem errL_bad {x : Step} {r : List Step} (h : chk x ≠ 0) : errL (x :: r) = chk x := by rw [errL, if_pos h]
theorem errL_good : ∀ {l : List Step}, errL l = 0 ↔ ∀ x ∈ l, GoodS x
 | [] => by simp [errL]
 | x :: r => by
  by_cases h : chk x = 0
  · rw [errL_cons h, errL_good]
    constructor
    · intro q y hy
      rcases List.mem_cons.1 hy with rfl | hy
      · exact chk_zero.1 h
      · exact q y hy
    · intro q y hy; exact q y (by simp [hy])
  · rw [errL_bad h]
    constructor
    · intro q; exact absurd q h
    · intro q; exact absurd (chk_zero.2 (q x (by simp))) h
theorem lform_loop2 (x : Step) (g : GoodS x) (k : List (List UInt8) → Option (List UInt8 × Int)) : ∀ (r pre : List Stroke), x.strokes = pre ++ r → stroke_Format_loop2 x k (r.length + 1) (pre.length : Int) (pre.map wr) = k (x.strokes.map wr)
 | [], pre, e => by
  unfold stroke_Format_loop2
  rw [e, ge_end]
  simp
 | y :: r, pre, e => by
  have hf := g.few
  have hlen : x.strokes.length = pre.length + (r.length + 1) := by rw [e]; simp
  obtain ⟨h0, h1, _⟩ := asc_mem g.asc y (by rw [e]; simp)
  have hat : at? x.strokes (pre.length : Int) = some y := by rw [e]; exact at?_mid
  unfold stroke_Format_loop2
  rw [if_pos (by rw [decide_eq_true_eq]; omega), hat, Option.bind_some, lwr_eq h0 h1, Option.bind_some, appO_ok (by simp; omega) (by decide), Option.bind_some, wrap64 (by omega) (by omega)]
  have ih := lform_loop2 x g k r (pre ++ [y]) (by rw [e, mid_cons])
  have e2 : (((pre ++ [y]).length : Nat) : Int) = (pre.length : Int) + 1 := by simp
  rw [e2, List.map_append] at ih
  exact ih
theorem lform_loop (l : List Step) (k : List (List UInt8) → Option (List UInt8 × Int)) (hl : l.length ≤ 64) : ∀ (r pre : List Step) (acc : List (List UInt8)), l = pre ++ r → acc.length ≤ pre.length →
 stroke_Format_loop1 l k (r.length + 1) (pre.length : Int) acc = if errL r ≠ 0 then some ([], errL r) else k (acc ++ r.map lineS)
 | [], pre, acc, e, ha => by
  unfold stroke_Format_loop1
  rw [e, ge_end]
  simp [errL]
 | x :: r, pre, acc, e, ha => by
  have hlen : l.length = pre.length + (r.length + 1) := by rw [e]; simp
  have hat : at? l (pre.length : Int) = some x := by rw [e]; exact at?_mid
  have hw : IntKind.wrap .i64 ((pre.length : Int) + 1) = (((pre ++ [x]).length : Nat) : Int) := by rw [wrap64 (by omega) (by omega)]; simp
  unfold stroke_Format_loop1 joinK
  dsimp only
  rw [if_pos (by rw [decide_eq_true_eq]; omega), hat, Option.bind_some, lchk_eq, Option.bind_some, hw]
  by_cases h : chk x = 0
  · have hb : ¬ (chk x != 0) = true := by simpa using h
    have g := chk_zero.1 h
    have hf := g.few
    rw [if_neg hb, errL_cons h, fuel0]
    refine Eq.trans (lform_loop2 x g _ x.strokes [] rfl) ?_
    obtain ⟨w1, w2⟩ := words_len g
    have hll := line_len g
    have fin : ∀ W : List (List UInt8), W = words x → ((joinS W [32]).bind fun r4 => (appO 16 acc ([r4] : List (List UInt8))).bind fun _ => stroke_Format_loop1 l k (x :: r).length (((pre ++ [x]).length : Nat) : Int) (acc ++ ([r4] : List (List UInt8)))) = if errL r ≠ 0 then some ([], errL r) else k (acc ++ (x :: r).map lineS) := by
     intro W hW
     subst hW
     rw [joinS_eq (by omega) (by unfold lineS at hll; omega), Option.bind_some, appO_ok (by simp; omega) (by decide), Option.bind_some]
     refine Eq.trans (lform_loop l k hl r (pre ++ [x]) (acc ++ [lineS x]) (by rw [e, mid_cons]) (by simp; omega)) ?_
     simp
    by_cases hwt : x.wait > 0
    · rw [if_pos (by rw [decide_eq_true_eq]; exact hwt), itoa_eq g.w0 g.w1, Option.bind_some, appO_ok (by simp; omega) (by decide), Option.bind_some]
      exact fin _ (by unfold words; rw [if_pos hwt])
    · rw [if_neg (by rw [decide_eq_true_eq]; exact hwt)]
      exact fin _ (by unfold words; rw [if_neg hwt, List.append_nil])
  · rw [if_pos (by simpa using h), errL_bad h, if_pos h]
def formatR (l : List Step) : List UInt8 × Int := if 64 < l.length then ([], 5) else if errL l ≠ 0 then ([], errL l) else (textL l, 0)
theorem lform_eq (l : List Step) : stroke_Format l = some (formatR l) := by
 unfold stroke_Format formatR
 by_cases h : 64 < l.length
 · rw [if_pos (by rw [decide_eq_true_eq]; omega), if_pos h]
 · rw [if_neg (by rw [decide_eq_true_eq]; omega), if_neg h]
   unfold joinK
   dsimp only
   rw [fuel0]
   refine Eq.trans (lform_loop l _ (by omega) l [] [] rfl (by simp)) ?_
   by_cases he : errL l = 0
   · have hn : ¬ errL l ≠ 0 := fun q => q he
     have ht := text_len (errL_good.1 he) (by omega)
     rw [if_neg hn, if_neg hn, List.nil_append, joinS_eq (by simp; omega) (by unfold textL at ht; omega)]
     rfl
   · have hn : errL l ≠ 0 := he
     rw [if_pos hn, if_pos hn]
theorem eqK_loop (a b : List Stroke) (hl : a.length = b.length) (hb : a.length ≤ 100000) : ∀ (r q pre pre2 : List Stroke), a = pre ++ r → b = pre2 ++ q → pre.length = pre2.length → slices_Equal_api_Strokeapi_Stroke_loop1 a b (some true) (r.length + 1) (pre.length : Int) = some (r == q)
 | [], q, pre, pre2, ea, eb, hp => by
  unfold slices_Equal_api_Strokeapi_Stroke_loop1
  have : q = [] := by
   have h1 : a.length = pre.length := by rw [ea]; simp
   have h2 : b.length = pre2.length + q.length := by rw [eb]; simp
   exact List.eq_nil_of_length_eq_zero (by omega)
  subst this
  rw [if_neg (by rw [ea]; simp)]
  rfl
 | y :: r, q, pre, pre2, ea, eb, hp => by
  have h1 : a.length = pre.length + (r.length + 1) := by rw [ea]; simp
  have h2 : b.length = pre2.length + q.length := by rw [eb]; simp
  cases q with
  | nil => simp at h2; omega
  | cons z q =>
   have ih := eqK_loop a b hl hb r q (pre ++ [y]) (pre2 ++ [z]) (by rw [ea, mid_cons]) (by rw [eb, mid_cons]) (by simp [hp])
   have ha : at? a (pre.length : Int) = some y := by rw [ea]; exact at?_mid
   have hbz : at? b (pre.length : Int) = some z := by rw [hp, eb]; exact at?_mid
   have e2 : (((pre ++ [y]).length : Nat) : Int) = (pre.length : Int) + 1 := by simp
   rw [e2] at ih
   unfold slices_Equal_api_Strokeapi_Stroke_loop1
   rw [if_pos (by rw [decide_eq_true_eq]; omega), ha, hbz]
   simp only [Option.bind_some]
   rw [wrap64 (x := (pre.length : Int) + 1) (by omega) (by omega), List.length_cons, ih, List.cons_beq_cons]
   cases y == z <;> rfl
theorem eqK_eq (a b : List Stroke) (hb : a.length ≤ 100000) : slices_Equal_api_Strokeapi_Stroke a b = some (a == b) := by
 unfold slices_Equal_api_Strokeapi_Stroke
 by_cases h : a.length = b.length
 · rw [if_neg (by simp [h])]
   unfold joinK
   dsimp only
   rw [fuel0]
   exact eqK_loop a b h hb a b [] [] rfl rfl rfl
 · rw [if_pos (by simp; omega)]
   congr 1
   symm
   rw [beq_eq_false_iff_ne]
   intro q
   exact h (by rw [q])
theorem rsame_loop (a b : List Stroke) (hl : a.length = b.length) (hb : a.length ≤ 100000) : ∀ (r q pre pre2 : List Stroke), a = pre ++ r → b = pre2 ++ q → pre.length = pre2.length → ref13_SameStrokes_loop1 a b (some true) (r.length + 1) (pre.length : Int) = some (r == q)
 | [], q, pre, pre2, ea, eb, hp => by
  unfold ref13_SameStrokes_loop1
  have : q = [] := by
   have h1 : a.length = pre.length := by rw [ea]; simp
   have h2 : b.length = pre2.length + q.length := by rw [eb]; simp
   exact List.eq_nil_of_length_eq_zero (by omega)
  subst this
  rw [if_neg (by rw [ea]; simp)]
  rfl
 | y :: r, q, pre, pre2, ea, eb, hp => by
  have h1 : a.length = pre.length + (r.length + 1) := by rw [ea]; simp
  have h2 : b.length = pre2.length + q.length := by rw [eb]; simp
  cases q with
  | nil => simp at h2; omega
  | cons z q =>
   have ih := rsame_loop a b hl hb r q (pre ++ [y]) (pre2 ++ [z]) (by rw [ea, mid_cons]) (by rw [eb, mid_cons]) (by simp [hp])
   have ha : at? a (pre.length : Int) = some y := by rw [ea]; exact at?_mid
   have hbz : at? b (pre.length : Int) = some z := by rw [hp, eb]; exact at?_mid
   have e2 : (((pre ++ [y]).length : Nat) : Int) = (pre.length : Int) + 1 := by simp
   rw [e2] at ih
   unfold ref13_SameStrokes_loop1
   rw [if_pos (by rw [decide_eq_true_eq]; omega), ha, hbz]
   simp only [Option.bind_some]
   rw [wrap64 (x := (pre.length : Int) + 1) (by omega) (by omega), List.length_cons, ih, List.cons_beq_cons]
   cases y == z <;> rfl
theorem rsameK_eq (a b : List Stroke) (hb : a.length ≤ 100000) : ref13_SameStrokes a b = some (a == b) := by
 unfold ref13_SameStrokes
 by_cases h : a.length = b.length
 · rw [if_neg (by simp [h])]
   unfold joinK
   dsimp only
   rw [fuel0]
   exact rsame_loop a b h hb a b [] [] rfl rfl rfl
 · rw [if_pos (by simp; omega)]
   congr 1
   symm
   rw [beq_eq_false_iff_ne]
   intro q
   exact h (by rw [q])
def sameB (a b : Step) : Bool := a.wait == b.wait && a.strokes == b.strokes
theorem lsame_eq (a b : Step) (hb : a.strokes.length ≤ 100000) : stroke_Same a b = some (sameB a b) := by
 unfold stroke_Same sameB
 rw [eqK_eq _ _ hb]
 cases a.wait == b.wait <;> rfl
theorem rsame_eq (a b : Step) (hb : a.strokes.length ≤ 100000) : ref13_Same a b = some (sameB a b) := by
 unfold ref13_Same sameB
 rw [rsameK_eq _ _ hb]
 cases a.wait == b.wait <;> rfl
theorem sameB_refl (a : Step) : sameB a a = true := by unfold sameB; simp
def setL (l : List Bool) : List Stroke → List Bool
 | [] => l
 | y :: r => setL (l.set y.actuator.toNat y.out) r
def suit1 (ends : List Bool) (y : Stroke) : Bool := match ends[y.actuator.toNat]? with | none => false | some b => b != y.out
def suitsB (x : Step) (ends : List Bool) : Bool := x.strokes.all (suit1 ends)
def turn (y : Stroke) : Stroke := ⟨y.actuator, !y.out⟩
theorem step_mid {α : Type} {l pre r : List α} {x : α} (e : l = pre ++ x :: r) (h : l.length ≤ 4611686018427387904) :
 decide ((pre.length : Int) < (l.length : Int)) = true ∧ at? l (pre.length : Int) = some x ∧ IntKind.wrap .i64 ((pre.length : Int) + 1) = ((pre ++ [x]).length : Int) ∧ l = (pre ++ [x]) ++ r ∧ l.length = pre.length + (r.length + 1) := by
 subst e
 exact ⟨lt_mid, at?_mid, wrap_mid h, mid_cons, by simp⟩
theorem end_mid {α : Type} {l pre : List α} (e : l = pre ++ []) : decide ((pre.length : Int) < (l.length : Int)) = false := by
 subst e
 exact ge_end
def Ends6.l (x : Ends6) : List Bool := [x.a0, x.a1, x.a2, x.a3, x.a4, x.a5]
def flat (l : List Step) : List Stroke := l.flatMap (·.strokes)
def allMove (n : Int) (L : List Stroke) : Bool := (List.range n.toNat).all fun i => L.any fun y => y.actuator == (i : Int)
def zeros (n : Nat) : List Bool := List.replicate n false
def behL (l : List Bool) (r : List Step) : List Bool := r.foldl (fun l x => setL l x.strokes) l
structure RightS (s : Sequence) : Prop where
 n0 : 1 ≤ s.actuators
 n1 : s.actuators ≤ 6
 l0 : s.steps ≠ []
 l1 : s.steps.length ≤ 64
 good : ∀ x ∈ s.steps, GoodS x ∧ ∀ y ∈ x.strokes, y.actuator < s.actuators
 fit : ∀ pre x q, s.steps = pre ++ x :: q → suitsB x (behL (zeros s.actuators.toNat) pre) = true
 last : true ∉ behL (zeros s.actuators.toNat) s.steps
 all : allMove s.actuators (flat s.steps) = true
end Go.Proofs.YtgpfgnpdbmbknaaGreatDoor.W
