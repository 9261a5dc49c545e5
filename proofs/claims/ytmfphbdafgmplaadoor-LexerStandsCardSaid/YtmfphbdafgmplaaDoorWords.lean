/- The plain laws of words: lexer_Word and the reference's. No program in sight. -/
import Derived.Test.YtmfphbdafgmplaaDoorBase
set_option linter.unusedVariables false
set_option linter.unusedSimpArgs false
set_option maxHeartbeats 2000000
namespace Go.Proofs.YtmfphbdafgmplaaDoor.W
open Go Go.RowKit
def letter (b : UInt8) : Bool := (decide (97 ≤ b.toNat) && decide (b.toNat ≤ 122)) || (decide (65 ≤ b.toNat) && decide (b.toNat ≤ 90))
def inner (b : UInt8) : Bool := letter b || (decide (48 ≤ b.toNat) && decide (b.toNat ≤ 57)) || b.toNat == 95
theorem class_all : ((List.range 256).all fun n => match lexer_class (n : Int) with | some c => ((c == 1) == letter n.toUInt8) && ((c == 1 || c == 2 || c == 3) == inner n.toUInt8) | none => false) = true := by kernel_rfl
theorem class_eq (b : UInt8) : ∃ c, lexer_class (b.toNat : Int) = some c ∧ (c == 1) = letter b ∧ (c == 1 || c == 2 || c == 3) = inner b := by
  have h := List.all_eq_true.1 class_all b.toNat (List.mem_range.2 (UInt8.toNat_lt b))
  split at h
  · rename_i c hc
    rw [Bool.and_eq_true, beq_iff_eq, beq_iff_eq] at h
    have e : b.toNat.toUInt8 = b := by simp
    rw [e] at h
    exact ⟨c, hc, h.1, h.2⟩
  · cases h
def word (s : List UInt8) : Int :=
  match s with
  | [] => 3
  | b :: r => if letter b = false then 3 else if (b :: r).all inner = false then 3 else if 24 < (b :: r).length then 17 else 0
theorem word_cons (b : UInt8) (r : List UInt8) : word (b :: r) = if letter b = false then 3 else if (b :: r).all inner = false then 3 else if 24 < (b :: r).length then 17 else 0 := rfl
theorem wrap01 : IntKind.wrap .i64 1 = 1 := by kernel_rfl
theorem wrap11 : IntKind.wrap .i64 2 = 2 := by kernel_rfl
theorem wrap21 : IntKind.wrap .i64 3 = 3 := by kernel_rfl
theorem run_in {s : List UInt8} {i : Int} {b : UInt8} (k3 : Bool → Option Int) (h : byteAt s i = some b) : lexer_run_loop2 s [1, 2, 3] i k3 4 false 0 = k3 (inner b) := by
  obtain ⟨c, h1, h2, h3⟩ := class_eq b
  rw [← h3]
  by_cases e1 : c = 1
  · simp [lexer_run_loop2, at?, h, h1, e1, wrap01, wrap11, wrap21]
  · by_cases e2 : c = 2
    · simp [lexer_run_loop2, at?, h, h1, e2, wrap01, wrap11, wrap21]
    · by_cases e3 : c = 3
      · simp [lexer_run_loop2, at?, h, h1, e3, wrap01, wrap11, wrap21]
      · have q : (c == 1 || c == 2 || c == 3) = (c == 3) := by simp [e1, e2]
        rw [q]
        simp [lexer_run_loop2, at?, h, h1, e1, e2, e3, wrap01, wrap11, wrap21]
theorem run_loop (s : List UInt8) (k : Option Int) (hb : s.length ≤ 4611686018427387904) : ∀ (r pre : List UInt8), s = pre ++ r → lexer_run_loop1 s [1, 2, 3] k (r.length + 1) (pre.length : Int) = if r.all inner = true then k else some ((pre.length + (r.takeWhile inner).length : Nat) : Int)
  | [], pre, e => by
    unfold lexer_run_loop1
    rw [e, ge_end]
    simp
  | x :: r, pre, e => by
    unfold lexer_run_loop1 joinK
    dsimp only
    have hf : (Int.toNat (((([1, 2, 3] : List Int).length : Nat) : Int) - 0) + 1) = 4 := rfl
    rw [e, lt_mid, if_pos rfl, wrap_mid (x := x) (r := r) (by rw [← e]; exact hb), ← e, hf, run_in _ (by rw [e]; exact byteAt_mid)]
    have ih := run_loop s k hb r (pre ++ [x]) (by rw [e, mid_cons])
    cases hx : inner x
    · simp [hx]
    · simp only [hx, Bool.not_true, Bool.false_eq_true, if_false]
      refine ih.trans ?_
      simp only [List.all_cons, hx, Bool.true_and, List.takeWhile_cons, if_true, List.length_append, List.length_cons, List.length_nil]
      split
      · rfl
      · congr 2
        omega
theorem run_eq (s : List UInt8) (hb : s.length ≤ 4611686018427387904) : ∃ n, lexer_run s [1, 2, 3] = some n ∧ (n != (s.length : Int)) = !(s.all inner) := by
  unfold lexer_run joinK
  rw [fuel0]
  have e0 := run_loop s (some (s.length : Int)) hb s [] rfl
  simp only [List.length_nil, Int.natCast_zero] at e0
  simp only [e0]
  cases h : s.all inner
  · refine ⟨_, rfl, ?_⟩
    have hlt : (s.takeWhile inner).length < s.length := by
      clear e0
      induction s with
      | nil => simp at h
      | cons x r ih =>
        rw [List.takeWhile_cons]
        cases hx : inner x
        · simp
        · rw [List.all_cons, hx, Bool.true_and] at h
          simp only [if_true, List.length_cons]
          have := ih (by simp at hb; omega) h
          omega
    simp only [Nat.zero_add, Bool.not_false, bne_iff_ne, ne_eq]
    omega
  · exact ⟨_, rfl, by simp⟩
theorem lword_eq (s : List UInt8) (hb : s.length ≤ 4611686018427387904) : lexer_Word s = some (word s) := by
  unfold lexer_Word
  cases s with
  | nil => rfl
  | cons b r =>
    have h0 : byteAt (b :: r) 0 = some b := rfl
    obtain ⟨c, h1, h2, _⟩ := class_eq b
    obtain ⟨n, h3, h4⟩ := run_eq (b :: r) hb
    have hn : ((b :: r) == []) = false := rfl
    simp only [hn, Bool.false_eq_true, if_false, h0, Option.bind_some, h1, h3, h4]
    have h2' : (c != 1) = !(letter b) := by rw [← h2]; rfl
    rw [h2', word_cons]
    cases letter b with
    | false => rfl
    | true =>
      cases (b :: r).all inner with
      | false => rfl
      | true =>
        have h24 : ∃ c : Bool, decide (((b :: r).length : Int) > 24) = c ∧ (if 24 < (b :: r).length then (17 : Int) else 0) = if c = true then 17 else 0 := by
          by_cases q : 24 < (b :: r).length
          · exact ⟨true, decide_eq_true (by omega), by rw [if_pos q]; rfl⟩
          · exact ⟨false, decide_eq_false (by omega), by rw [if_neg q]; rfl⟩
        obtain ⟨c24, g1, g2⟩ := h24
        rw [g1, g2]
        cases c24 <;> rfl
theorem inner_all : ((List.range 256).all fun n => (ref12_inner (n : Int) == some (inner n.toUInt8)) && (ref12_Letter (n : Int) == some (letter n.toUInt8))) = true := by kernel_rfl
theorem inner_eq (b : UInt8) : ref12_inner (b.toNat : Int) = some (inner b) ∧ ref12_Letter (b.toNat : Int) = some (letter b) := by
  have h := List.all_eq_true.1 inner_all b.toNat (List.mem_range.2 (UInt8.toNat_lt b))
  rw [Bool.and_eq_true, beq_iff_eq, beq_iff_eq] at h
  have e : b.toNat.toUInt8 = b := by simp
  rw [e] at h
  exact h
theorem rword_loop (s : List UInt8) (k : Option Int) (hb : s.length ≤ 4611686018427387904) : ∀ (r pre : List UInt8), s = pre ++ r → ref12_Word_loop1 s k (r.length + 1) (pre.length : Int) = if r.all inner = true then k else some 3
  | [], pre, e => by
    unfold ref12_Word_loop1
    rw [e, ge_end]
    simp
  | x :: r, pre, e => by
    unfold ref12_Word_loop1
    rw [e, lt_mid, if_pos rfl, wrap_mid (x := x) (r := r) (by rw [← e]; exact hb), byteAt_mid, Option.bind_some, (inner_eq x).1, Option.bind_some, ← e]
    have ih := rword_loop s k hb r (pre ++ [x]) (by rw [e, mid_cons])
    cases hx : inner x
    · simp [hx]
    · simp only [Bool.not_true, Bool.false_eq_true, if_false]
      refine ih.trans ?_
      simp only [List.all_cons, hx, Bool.true_and]
theorem rword_eq (s : List UInt8) (hb : s.length ≤ 4611686018427387904) : ref12_Word s = some (word s) := by
  unfold ref12_Word joinK
  cases s with
  | nil => rfl
  | cons b r =>
    have h0 : byteAt (b :: r) 0 = some b := rfl
    have e0 := rword_loop (b :: r) (if (decide (((b :: r).length : Int) > 24)) = true then some 17 else some 0) hb (b :: r) [] rfl
    simp only [List.length_nil, Int.natCast_zero] at e0
    have hn : ((((b :: r).length : Nat) : Int) == 0) = false := by simp; omega
    rw [fuel0]
    simp only [hn, Bool.false_eq_true, if_false, h0, Option.bind_some, (inner_eq b).2, e0]
    rw [word_cons]
    cases letter b with
    | false => rfl
    | true =>
      cases (b :: r).all inner with
      | false => rfl
      | true =>
        have h24 : ∃ c : Bool, decide (((b :: r).length : Int) > 24) = c ∧ (if 24 < (b :: r).length then (17 : Int) else 0) = if c = true then 17 else 0 := by
          by_cases q : 24 < (b :: r).length
          · exact ⟨true, decide_eq_true (by omega), by rw [if_pos q]; rfl⟩
          · exact ⟨false, decide_eq_false (by omega), by rw [if_neg q]; rfl⟩
        obtain ⟨c24, g1, g2⟩ := h24
        rw [g1, g2]
        cases c24 <;> rfl
theorem digits_loop (k : List UInt8 → Option (List UInt8)) : ∀ (m n : Nat) (s : List UInt8), n + 1 ≤ m → s.length + n ≤ 4000000 → ref12_Digits_loop1 k m (n : Int) s = k (if n = 0 then s else Lib.decDigits n ++ s)
  | 0, n, s, h, _ => by omega
  | m + 1, n, s, h, hs => by
    unfold ref12_Digits_loop1
    by_cases h0 : n = 0
    · subst h0
      simp
    · rw [if_pos (by rw [decide_eq_true_eq]; omega), tmod_nat, cut_digit ⟨n % 10, by omega⟩, tdiv_nat]
      simp only [Option.bind_some]
      rw [catO_small (by simp; omega), wrap64 (by omega) (by omega)]
      simp only [Option.bind_some]
      rw [digits_loop k m (n / 10) _ (by omega) (by simp; omega), if_neg h0]
      by_cases h1 : n / 10 = 0
      · rw [if_pos h1, dec_small (by omega), show n % 10 = n by omega]
      · have hd : Lib.decDigits n = Lib.decDigits (n / 10) ++ [UInt8.ofNat (48 + n % 10)] := dec_big (by omega)
        rw [if_neg h1, hd, List.append_assoc]
theorem digits_eq (n : Nat) (h : n ≤ 1048576) : ref12_Digits (n : Int) = some (Lib.decDigits n) := by
  unfold ref12_Digits joinK
  rw [tmod_nat, cut_digit ⟨n % 10, by omega⟩, tdiv_nat]
  simp only [Option.bind_some]
  rw [wrap64 (by omega) (by omega), show ((n : Int).toNat + 2) = n + 2 by simp, digits_loop _ (n + 2) (n / 10) _ (by omega) (by simp; omega)]
  by_cases h1 : n / 10 = 0
  · rw [if_pos h1, dec_small (by omega), show n % 10 = n by omega]
  · have hd : Lib.decDigits n = Lib.decDigits (n / 10) ++ [UInt8.ofNat (48 + n % 10)] := dec_big (by omega)
    rw [if_neg h1, hd]
end Go.Proofs.YtmfphbdafgmplaaDoor.W
