/- The plain laws of the journal: what the walks compute answers true. No program in sight. -/
import Derived.Test.YtpocodofhkaddaaGreatDoorExtra
set_option linter.unusedVariables false
set_option linter.unusedSimpArgs false
namespace Go.Proofs.YtpocodofhkaddaaGreatDoor.W
open Go Go.RowKit
theorem wrap64 {x : Int} (h : -9223372036854775808 ≤ x) (k : x ≤ 9223372036854775807) : IntKind.wrap .i64 x = x := by
  unfold IntKind.wrap
  simp [IntKind.bits, IntKind.signed]
  split <;> omega
theorem maxLen_eq : maxLen = 9223372036854775807 := by decide
section
variable {α : Type} {x : α} {pre r l : List α}
theorem at?_mid : at? (pre ++ x :: r) (pre.length : Int) = some x := by
  unfold at?
  rw [if_pos (by omega)]
  simp
theorem lt_mid : decide ((pre.length : Int) < ((pre ++ x :: r).length : Int)) = true := by
  simp only [List.length_append, List.length_cons, decide_eq_true_eq]
  omega
theorem ge_end : decide ((pre.length : Int) < ((pre ++ ([] : List α)).length : Int)) = false := by
  simp
theorem wrap_mid (h : (pre ++ x :: r).length ≤ 4611686018427387904) : IntKind.wrap .i64 ((pre.length : Int) + 1) = ((pre ++ [x]).length : Int) := by
  simp only [List.length_append, List.length_cons, List.length_nil] at h ⊢
  rw [wrap64 (by omega) (by omega)]
  omega
theorem mid_cons : pre ++ x :: r = (pre ++ [x]) ++ r := by simp
theorem fuel0 : Int.toNat ((l.length : Int) - 0) + 1 = l.length + 1 := by simp
theorem appO_ok {b : Nat} {l r : List α} (h : (l.length + r.length) * b ≤ 140737488355328) (h0 : 0 < b) : appO b l r = some (l ++ r) := by
  unfold appO
  have h1 : l.length + r.length ≤ (l.length + r.length) * b := Nat.le_mul_of_pos_right _ h0
  rw [if_pos ⟨h, by rw [maxLen_eq]; omega⟩]
end
/-! ### copies -/
/-! ### few -/
def Small (m : Machine) : Prop := m.items.length ≤ 512 ∧ ∀ x ∈ m.items, x.name.length ≤ 60
def SmallE (l : List Entry) : Prop := ∀ x ∈ l, x.name.length ≤ 60
theorem fewE_loop (l : List Entry) (k : Option Bool) (hb : l.length ≤ 4611686018427387904) : ∀ (r pre : List Entry), l = pre ++ r → ref58_FewEntries_loop1 l k (r.length + 1) (pre.length : Int) = if r.all (fun x => decide (x.name.length ≤ 60)) = true then k else some false
  | [], pre, e => by
    unfold ref58_FewEntries_loop1
    rw [e, ge_end]
    simp
  | x :: r, pre, e => by
    unfold ref58_FewEntries_loop1
    rw [e, lt_mid, if_pos rfl, at?_mid, Option.bind_some, wrap_mid (x := x) (r := r) (by rw [← e]; exact hb), ← e]
    by_cases h : x.name.length ≤ 60
    · rw [if_neg (by simp; omega)]
      refine (fewE_loop l k hb r (pre ++ [x]) (by rw [e, mid_cons])).trans ?_
      simp [h]
    · rw [if_pos (by simp; omega)]
      simp [h]
theorem fewE_eq (l : List Entry) (hb : l.length ≤ 4611686018427387904) : ∃ b, ref58_FewEntries l = some b ∧ (b = true → (l.length ≤ 20 ∨ 4096 < l.length) ∧ l.length ≤ 8192 ∧ SmallE l) := by
  unfold ref58_FewEntries joinK
  rw [fuel0]
  have e0 := fewE_loop l (some true) hb l [] rfl
  simp only [List.length_nil, Int.natCast_zero] at e0
  simp only [e0]
  split
  · exact ⟨_, rfl, by simp⟩
  · rename_i h
    split
    · rename_i h2
      refine ⟨_, rfl, fun _ => ?_⟩
      simp at h
      refine ⟨by omega, by omega, fun x hx => ?_⟩
      have := List.all_eq_true.1 h2 x hx
      simpa using this
    · exact ⟨_, rfl, by simp⟩
/-! ### words -/
def letter (b : UInt8) : Bool := (decide (97 ≤ b.toNat) && decide (b.toNat ≤ 122)) || (decide (65 ≤ b.toNat) && decide (b.toNat ≤ 90))
def inner (b : UInt8) : Bool := letter b || (decide (48 ≤ b.toNat) && decide (b.toNat ≤ 57)) || b.toNat == 95
theorem class_all : ((List.range 256).all fun n => match lexer_class (n : Int) with | some c => ((c == 1) == letter n.toUInt8) && ((c == 1 || c == 2 || c == 3) == inner n.toUInt8) | none => false) = true := by kernel_rfl
theorem class_eq (b : UInt8) : ∃ c, lexer_class (b.toNat : Int) = some c ∧ (c == 1) = letter b ∧ (c == 1 || c == 2 || c == 3) = inner b := by
  have h := List.all_eq_true.1 class_all b.toNat (List.mem_range.2 (UInt8.toNat_lt b))
  split at h
  · rename_i c hc
    rw [Bool.and_eq_true, beq_iff_eq, beq_iff_eq] at h
    have e : b.toNat.toUInt8 = b := by simp
    rw [e] at h
    exact ⟨c, hc, h.1, h.2⟩
  · cases h
theorem byteAt_mid {pre r : List UInt8} {x : UInt8} : byteAt (pre ++ x :: r) (pre.length : Int) = some x := by
  unfold byteAt
  rw [if_pos (by omega)]
  simp
def word (s : List UInt8) : Int :=
  match s with
  | [] => 3
  | b :: r => if letter b = false then 3 else if (b :: r).all inner = false then 3 else if 24 < (b :: r).length then 17 else 0
theorem word_cons (b : UInt8) (r : List UInt8) : word (b :: r) = if letter b = false then 3 else if (b :: r).all inner = false then 3 else if 24 < (b :: r).length then 17 else 0 := rfl
theorem wrap01 : IntKind.wrap .i64 1 = 1 := by kernel_rfl
theorem wrap11 : IntKind.wrap .i64 2 = 2 := by kernel_rfl
theorem wrap21 : IntKind.wrap .i64 3 = 3 := by kernel_rfl
theorem run_in {s : List UInt8} {i : Int} {b : UInt8} (k3 : Bool → Option Int) (h : byteAt s i = some b) : lexer_run_loop2 s [1, 2, 3] i k3 4 false 0 = k3 (inner b) := by
  obtain ⟨c, h1, h2, h3⟩ := class_eq b
  rw [← h3]
  by_cases e1 : c = 1
  · simp [lexer_run_loop2, at?, h, h1, e1, wrap01, wrap11, wrap21]
  · by_cases e2 : c = 2
    · simp [lexer_run_loop2, at?, h, h1, e2, wrap01, wrap11, wrap21]
    · by_cases e3 : c = 3
      · simp [lexer_run_loop2, at?, h, h1, e3, wrap01, wrap11, wrap21]
      · have q : (c == 1 || c == 2 || c == 3) = (c == 3) := by simp [e1, e2]
        rw [q]
        simp [lexer_run_loop2, at?, h, h1, e1, e2, e3, wrap01, wrap11, wrap21]
theorem run_loop (s : List UInt8) (k : Option Int) (hb : s.length ≤ 4611686018427387904) : ∀ (r pre : List UInt8), s = pre ++ r → lexer_run_loop1 s [1, 2, 3] k (r.length + 1) (pre.length : Int) = if r.all inner = true then k else some ((pre.length + (r.takeWhile inner).length : Nat) : Int)
  | [], pre, e => by
    unfold lexer_run_loop1
    rw [e, ge_end]
    simp
  | x :: r, pre, e => by
    unfold lexer_run_loop1 joinK
    dsimp only
    have hf : (Int.toNat (((([1, 2, 3] : List Int).length : Nat) : Int) - 0) + 1) = 4 := rfl
    rw [e, lt_mid, if_pos rfl, wrap_mid (x := x) (r := r) (by rw [← e]; exact hb), ← e, hf, run_in _ (by rw [e]; exact byteAt_mid)]
    have ih := run_loop s k hb r (pre ++ [x]) (by rw [e, mid_cons])
    cases hx : inner x
    · simp [hx]
    · simp only [hx, Bool.not_true, Bool.false_eq_true, if_false]
      refine ih.trans ?_
      simp only [List.all_cons, hx, Bool.true_and, List.takeWhile_cons, if_true, List.length_append, List.length_cons, List.length_nil]
      split
      · rfl
      · congr 2
        omega
theorem run_eq (s : List UInt8) (hb : s.length ≤ 4611686018427387904) : ∃ n, lexer_run s [1, 2, 3] = some n ∧ (n != (s.length : Int)) = !(s.all inner) := by
  unfold lexer_run joinK
  rw [fuel0]
  have e0 := run_loop s (some (s.length : Int)) hb s [] rfl
  simp only [List.length_nil, Int.natCast_zero] at e0
  simp only [e0]
  cases h : s.all inner
  · refine ⟨_, rfl, ?_⟩
    have hlt : (s.takeWhile inner).length < s.length := by
      clear e0
      induction s with
      | nil => simp at h
      | cons x r ih =>
        rw [List.takeWhile_cons]
        cases hx : inner x
        · simp
        · rw [List.all_cons, hx, Bool.true_and] at h
          simp only [if_true, List.length_cons]
          have := ih (by simp at hb; omega) h
          omega
    simp only [Nat.zero_add, Bool.not_false, bne_iff_ne, ne_eq]
    omega
  · exact ⟨_, rfl, by simp⟩
theorem lword_eq (s : List UInt8) (hb : s.length ≤ 4611686018427387904) : lexer_Word s = some (word s) := by
  unfold lexer_Word
  cases s with
  | nil => rfl
  | cons b r =>
    have h0 : byteAt (b :: r) 0 = some b := rfl
    obtain ⟨c, h1, h2, _⟩ := class_eq b
    obtain ⟨n, h3, h4⟩ := run_eq (b :: r) hb
    have hn : ((b :: r) == []) = false := rfl
    simp only [hn, Bool.false_eq_true, if_false, h0, Option.bind_some, h1, h3, h4]
    have h2' : (c != 1) = !(letter b) := by rw [← h2]; rfl
    rw [h2', word_cons]
    cases letter b with
    | false => rfl
    | true =>
      cases (b :: r).all inner with
      | false => rfl
      | true =>
        have h24 : ∃ c : Bool, decide (((b :: r).length : Int) > 24) = c ∧ (if 24 < (b :: r).length then (17 : Int) else 0) = if c = true then 17 else 0 := by
          by_cases q : 24 < (b :: r).length
          · exact ⟨true, decide_eq_true (by omega), by rw [if_pos q]; rfl⟩
          · exact ⟨false, decide_eq_false (by omega), by rw [if_neg q]; rfl⟩
        obtain ⟨c24, g1, g2⟩ := h24
        rw [g1, g2]
        cases c24 <;> rfl
theorem inner_all : ((List.range 256).all fun n => (ref12_inner (n : Int) == some (inner n.toUInt8)) && (ref12_Letter (n : Int) == some (letter n.toUInt8))) = true := by kernel_rfl
theorem inner_eq (b : UInt8) : ref12_inner (b.toNat : Int) = some (inner b) ∧ ref12_Letter (b.toNat : Int) = some (letter b) := by
  have h := List.all_eq_true.1 inner_all b.toNat (List.mem_range.2 (UInt8.toNat_lt b))
  rw [Bool.and_eq_true, beq_iff_eq, beq_iff_eq] at h
  have e : b.toNat.toUInt8 = b := by simp
  rw [e] at h
  exact h
theorem rword_loop (s : List UInt8) (k : Option Int) (hb : s.length ≤ 4611686018427387904) : ∀ (r pre : List UInt8), s = pre ++ r → ref12_Word_loop1 s k (r.length + 1) (pre.length : Int) = if r.all inner = true then k else some 3
  | [], pre, e => by
    unfold ref12_Word_loop1
    rw [e, ge_end]
    simp
  | x :: r, pre, e => by
    unfold ref12_Word_loop1
    rw [e, lt_mid, if_pos rfl, wrap_mid (x := x) (r := r) (by rw [← e]; exact hb), byteAt_mid, Option.bind_some, (inner_eq x).1, Option.bind_some, ← e]
    have ih := rword_loop s k hb r (pre ++ [x]) (by rw [e, mid_cons])
    cases hx : inner x
    · simp [hx]
    · simp only [Bool.not_true, Bool.false_eq_true, if_false]
      refine ih.trans ?_
      simp only [List.all_cons, hx, Bool.true_and]
theorem rword_eq (s : List UInt8) (hb : s.length ≤ 4611686018427387904) : ref12_Word s = some (word s) := by
  unfold ref12_Word joinK
  cases s with
  | nil => rfl
  | cons b r =>
    have h0 : byteAt (b :: r) 0 = some b := rfl
    have e0 := rword_loop (b :: r) (if (decide (((b :: r).length : Int) > 24)) = true then some 17 else some 0) hb (b :: r) [] rfl
    simp only [List.length_nil, Int.natCast_zero] at e0
    have hn : ((((b :: r).length : Nat) : Int) == 0) = false := by simp; omega
    rw [fuel0]
    simp only [hn, Bool.false_eq_true, if_false, h0, Option.bind_some, (inner_eq b).2, e0]
    rw [word_cons]
    cases letter b with
    | false => rfl
    | true =>
      cases (b :: r).all inner with
      | false => rfl
      | true =>
        have h24 : ∃ c : Bool, decide (((b :: r).length : Int) > 24) = c ∧ (if 24 < (b :: r).length then (17 : Int) else 0) = if c = true then 17 else 0 := by
          by_cases q : 24 < (b :: r).length
          · exact ⟨true, decide_eq_true (by omega), by rw [if_pos q]; rfl⟩
          · exact ⟨false, decide_eq_false (by omega), by rw [if_neg q]; rfl⟩
        obtain ⟨c24, g1, g2⟩ := h24
        rw [g1, g2]
        cases c24 <;> rfl
end Go.Proofs.YtpocodofhkaddaaGreatDoor.W
