/- The plain laws of the journal: what the walks compute answers true. No program in sight. -/
import Derived.Test.YtcgmhlakihjbkaaGreatDoorExtra
set_option linter.unusedVariables false
set_option linter.unusedSimpArgs false
namespace Go.Proofs.YtcgmhlakihjbkaaGreatDoor.W.J
open Go Go.RowKit
theorem wrap64 {x : Int} (h : -9223372036854775808 ≤ x) (k : x ≤ 9223372036854775807) : IntKind.wrap .i64 x = x := by
  unfold IntKind.wrap
  simp [IntKind.bits, IntKind.signed]
  split <;> omega
theorem maxLen_eq : maxLen = 9223372036854775807 := by decide
section
variable {α : Type} {x : α} {pre r l : List α}
theorem at?_mid : at? (pre ++ x :: r) (pre.length : Int) = some x := by
  unfold at?
  rw [if_pos (by omega)]
  simp
theorem lt_mid : decide ((pre.length : Int) < ((pre ++ x :: r).length : Int)) = true := by
  simp only [List.length_append, List.length_cons, decide_eq_true_eq]
  omega
theorem ge_end : decide ((pre.length : Int) < ((pre ++ ([] : List α)).length : Int)) = false := by
  simp
theorem wrap_mid (h : (pre ++ x :: r).length ≤ 4611686018427387904) : IntKind.wrap .i64 ((pre.length : Int) + 1) = ((pre ++ [x]).length : Int) := by
  simp only [List.length_append, List.length_cons, List.length_nil] at h ⊢
  rw [wrap64 (by omega) (by omega)]
  omega
theorem mid_cons : pre ++ x :: r = (pre ++ [x]) ++ r := by simp
theorem fuel0 : Int.toNat ((l.length : Int) - 0) + 1 = l.length + 1 := by simp
theorem appO_ok {b : Nat} {l r : List α} (h : (l.length + r.length) * b ≤ 140737488355328) (h0 : 0 < b) : appO b l r = some (l ++ r) := by
  unfold appO
  have h1 : l.length + r.length ≤ (l.length + r.length) * b := Nat.le_mul_of_pos_right _ h0
  rw [if_pos ⟨h, by rw [maxLen_eq]; omega⟩]
end
/-! ### copies -/
/-! ### few -/
theorem few_loop (m : Machine) (k : Option Bool) (hb : m.items.length ≤ 4611686018427387904) : ∀ (r pre : List Item), m.items = pre ++ r → ref58_Few_loop1 m k (r.length + 1) (pre.length : Int) = if r.all (fun x => decide (x.name.length ≤ 60)) = true then k else some false
  | [], pre, e => by
    unfold ref58_Few_loop1
    rw [e, ge_end]
    simp
  | x :: r, pre, e => by
    unfold ref58_Few_loop1
    rw [e, lt_mid, if_pos rfl, at?_mid, Option.bind_some, wrap_mid (x := x) (r := r) (by rw [← e]; exact hb)]
    by_cases h : x.name.length ≤ 60
    · rw [if_neg (by simp; omega)]
      refine (few_loop m k hb r (pre ++ [x]) (by rw [e, mid_cons])).trans ?_
      simp [h]
    · rw [if_pos (by simp; omega)]
      simp [h]
def Small (m : Machine) : Prop := m.items.length ≤ 512 ∧ ∀ x ∈ m.items, x.name.length ≤ 60
def SmallE (l : List Entry) : Prop := ∀ x ∈ l, x.name.length ≤ 60
/-! ### words -/
def letter (b : UInt8) : Bool := (decide (97 ≤ b.toNat) && decide (b.toNat ≤ 122)) || (decide (65 ≤ b.toNat) && decide (b.toNat ≤ 90))
def inner (b : UInt8) : Bool := letter b || (decide (48 ≤ b.toNat) && decide (b.toNat ≤ 57)) || b.toNat == 95
theorem class_all : ((List.range 256).all fun n => match lexer_class (n : Int) with | some c => ((c == 1) == letter n.toUInt8) && ((c == 1 || c == 2 || c == 3) == inner n.toUInt8) | none => false) = true := by kernel_rfl
theorem class_eq (b : UInt8) : ∃ c, lexer_class (b.toNat : Int) = some c ∧ (c == 1) = letter b ∧ (c == 1 || c == 2 || c == 3) = inner b := by
  have h := List.all_eq_true.1 class_all b.toNat (List.mem_range.2 (UInt8.toNat_lt b))
  split at h
  · rename_i c hc
    rw [Bool.and_eq_true, beq_iff_eq, beq_iff_eq] at h
    have e : b.toNat.toUInt8 = b := by simp
    rw [e] at h
    exact ⟨c, hc, h.1, h.2⟩
  · cases h
theorem byteAt_mid {pre r : List UInt8} {x : UInt8} : byteAt (pre ++ x :: r) (pre.length : Int) = some x := by
  unfold byteAt
  rw [if_pos (by omega)]
  simp
def word (s : List UInt8) : Int :=
  match s with
  | [] => 3
  | b :: r => if letter b = false then 3 else if (b :: r).all inner = false then 3 else if 24 < (b :: r).length then 17 else 0
theorem word_cons (b : UInt8) (r : List UInt8) : word (b :: r) = if letter b = false then 3 else if (b :: r).all inner = false then 3 else if 24 < (b :: r).length then 17 else 0 := rfl
theorem wrap01 : IntKind.wrap .i64 1 = 1 := by kernel_rfl
theorem wrap11 : IntKind.wrap .i64 2 = 2 := by kernel_rfl
theorem wrap21 : IntKind.wrap .i64 3 = 3 := by kernel_rfl
theorem run_in {s : List UInt8} {i : Int} {b : UInt8} (k3 : Bool → Option Int) (h : byteAt s i = some b) : lexer_run_loop2 s [1, 2, 3] i k3 4 false 0 = k3 (inner b) := by
  obtain ⟨c, h1, h2, h3⟩ := class_eq b
  rw [← h3]
  by_cases e1 : c = 1
  · simp [lexer_run_loop2, at?, h, h1, e1, wrap01, wrap11, wrap21]
  · by_cases e2 : c = 2
    · simp [lexer_run_loop2, at?, h, h1, e2, wrap01, wrap11, wrap21]
    · by_cases e3 : c = 3
      · simp [lexer_run_loop2, at?, h, h1, e3, wrap01, wrap11, wrap21]
      · have q : (c == 1 || c == 2 || c == 3) = (c == 3) := by simp [e1, e2]
        rw [q]
        simp [lexer_run_loop2, at?, h, h1, e1, e2, e3, wrap01, wrap11, wrap21]
theorem run_loop (s : List UInt8) (k : Option Int) (hb : s.length ≤ 4611686018427387904) : ∀ (r pre : List UInt8), s = pre ++ r → lexer_run_loop1 s [1, 2, 3] k (r.length + 1) (pre.length : Int) = if r.all inner = true then k else some ((pre.length + (r.takeWhile inner).length : Nat) : Int)
  | [], pre, e => by
    unfold lexer_run_loop1
    rw [e, ge_end]
    simp
  | x :: r, pre, e => by
    unfold lexer_run_loop1 joinK
    dsimp only
    have hf : (Int.toNat (((([1, 2, 3] : List Int).length : Nat) : Int) - 0) + 1) = 4 := rfl
    rw [e, lt_mid, if_pos rfl, wrap_mid (x := x) (r := r) (by rw [← e]; exact hb), ← e, hf, run_in _ (by rw [e]; exact byteAt_mid)]
    have ih := run_loop s k hb r (pre ++ [x]) (by rw [e, mid_cons])
    cases hx : inner x
    · simp [hx]
    · simp only [hx, Bool.not_true, Bool.false_eq_true, if_false]
      refine ih.trans ?_
      simp only [List.all_cons, hx, Bool.true_and, List.takeWhile_cons, if_true, List.length_append, List.length_cons, List.length_nil]
      split
      · rfl
      · congr 2
        omega
theorem run_eq (s : List UInt8) (hb : s.length ≤ 4611686018427387904) : ∃ n, lexer_run s [1, 2, 3] = some n ∧ (n != (s.length : Int)) = !(s.all inner) := by
  unfold lexer_run joinK
  rw [fuel0]
  have e0 := run_loop s (some (s.length : Int)) hb s [] rfl
  simp only [List.length_nil, Int.natCast_zero] at e0
  simp only [e0]
  cases h : s.all inner
  · refine ⟨_, rfl, ?_⟩
    have hlt : (s.takeWhile inner).length < s.length := by
      clear e0
      induction s with
      | nil => simp at h
      | cons x r ih =>
        rw [List.takeWhile_cons]
        cases hx : inner x
        · simp
        · rw [List.all_cons, hx, Bool.true_and] at h
          simp only [if_true, List.length_cons]
          have := ih (by simp at hb; omega) h
          omega
    simp only [Nat.zero_add, Bool.not_false, bne_iff_ne, ne_eq]
    omega
  · exact ⟨_, rfl, by simp⟩
theorem lword_eq (s : List UInt8) (hb : s.length ≤ 4611686018427387904) : lexer_Word s = some (word s) := by
  unfold lexer_Word
  cases s with
  | nil => rfl
  | cons b r =>
    have h0 : byteAt (b :: r) 0 = some b := rfl
    obtain ⟨c, h1, h2, _⟩ := class_eq b
    obtain ⟨n, h3, h4⟩ := run_eq (b :: r) hb
    have hn : ((b :: r) == []) = false := rfl
    simp only [hn, Bool.false_eq_true, if_false, h0, Option.bind_some, h1, h3, h4]
    have h2' : (c != 1) = !(letter b) := by rw [← h2]; rfl
    rw [h2', word_cons]
    cases letter b with
    | false => rfl
    | true =>
      cases (b :: r).all inner with
      | false => rfl
      | true =>
        have h24 : ∃ c : Bool, decide (((b :: r).length : Int) > 24) = c ∧ (if 24 < (b :: r).length then (17 : Int) else 0) = if c = true then 17 else 0 := by
          by_cases q : 24 < (b :: r).length
          · exact ⟨true, decide_eq_true (by omega), by rw [if_pos q]; rfl⟩
          · exact ⟨false, decide_eq_false (by omega), by rw [if_neg q]; rfl⟩
        obtain ⟨c24, g1, g2⟩ := h24
        rw [g1, g2]
        cases c24 <;> rfl
theorem inner_all : ((List.range 256).all fun n => (ref12_inner (n : Int) == some (inner n.toUInt8)) && (ref12_Letter (n : Int) == some (letter n.toUInt8))) = true := by kernel_rfl
theorem inner_eq (b : UInt8) : ref12_inner (b.toNat : Int) = some (inner b) ∧ ref12_Letter (b.toNat : Int) = some (letter b) := by
  have h := List.all_eq_true.1 inner_all b.toNat (List.mem_range.2 (UInt8.toNat_lt b))
  rw [Bool.and_eq_true, beq_iff_eq, beq_iff_eq] at h
  have e : b.toNat.toUInt8 = b := by simp
  rw [e] at h
  exact h
theorem rword_loop (s : List UInt8) (k : Option Int) (hb : s.length ≤ 4611686018427387904) : ∀ (r pre : List UInt8), s = pre ++ r → ref12_Word_loop1 s k (r.length + 1) (pre.length : Int) = if r.all inner = true then k else some 3
  | [], pre, e => by
    unfold ref12_Word_loop1
    rw [e, ge_end]
    simp
  | x :: r, pre, e => by
    unfold ref12_Word_loop1
    rw [e, lt_mid, if_pos rfl, wrap_mid (x := x) (r := r) (by rw [← e]; exact hb), byteAt_mid, Option.bind_some, (inner_eq x).1, Option.bind_some, ← e]
    have ih := rword_loop s k hb r (pre ++ [x]) (by rw [e, mid_cons])
    cases hx : inner x
    · simp [hx]
    · simp only [Bool.not_true, Bool.false_eq_true, if_false]
      refine ih.trans ?_
      simp only [List.all_cons, hx, Bool.true_and]
theorem rword_eq (s : List UInt8) (hb : s.length ≤ 4611686018427387904) : ref12_Word s = some (word s) := by
  unfold ref12_Word joinK
  cases s with
  | nil => rfl
  | cons b r =>
    have h0 : byteAt (b :: r) 0 = some b := rfl
    have e0 := rword_loop (b :: r) (if (decide (((b :: r).length : Int) > 24)) = true then some 17 else some 0) hb (b :: r) [] rfl
    simp only [List.length_nil, Int.natCast_zero] at e0
    have hn : ((((b :: r).length : Nat) : Int) == 0) = false := by simp; omega
    rw [fuel0]
    simp only [hn, Bool.false_eq_true, if_false, h0, Option.bind_some, (inner_eq b).2, e0]
    rw [word_cons]
    cases letter b with
    | false => rfl
    | true =>
      cases (b :: r).all inner with
      | false => rfl
      | true =>
        have h24 : ∃ c : Bool, decide (((b :: r).length : Int) > 24) = c ∧ (if 24 < (b :: r).length then (17 : Int) else 0) = if c = true then 17 else 0 := by
          by_cases q : 24 < (b :: r).length
          · exact ⟨true, decide_eq_true (by omega), by rw [if_pos q]; rfl⟩
          · exact ⟨false, decide_eq_false (by omega), by rw [if_neg q]; rfl⟩
        obtain ⟨c24, g1, g2⟩ := h24
        rw [g1, g2]
        cases c24 <;> rfl
end Go.Proofs.YtcgmhlakihjbkaaGreatDoor.W.J
set_option linter.unusedVariables false
set_option linter.unusedSimpArgs false
namespace Go.Proofs.YtcgmhlakihjbkaaGreatDoor.W.J
open Go Go.RowKit
abbrev ltB (a b : List UInt8) : Prop := Op.bytesLess a b = true
theorem ltB_irrefl : ∀ a : List UInt8, Op.bytesLess a a = false
  | [] => rfl
  | x :: r => by
    unfold Op.bytesLess
    rw [ltB_irrefl r]
    simp
theorem ltB_trans : ∀ {a b c : List UInt8}, ltB a b → ltB b c → ltB a c
  | _, [], _, h, _ => by cases ‹List UInt8› <;> simp [ltB, Op.bytesLess] at h
  | _, _ :: _, [], _, h => by simp [ltB, Op.bytesLess] at h
  | [], _ :: _, _ :: _, _, _ => rfl
  | x :: a, y :: b, z :: c, h, k => by
    simp only [ltB, Op.bytesLess, Bool.or_eq_true, Bool.and_eq_true, decide_eq_true_eq, beq_iff_eq] at h k ⊢
    rcases h with h | ⟨rfl, h⟩
    · rcases k with k | ⟨rfl, k⟩
      · left; rw [UInt8.lt_iff_toNat_lt] at *; omega
      · left; exact h
    · rcases k with k | ⟨rfl, k⟩
      · left; exact k
      · right; exact ⟨rfl, ltB_trans h k⟩
theorem ltB_tri : ∀ {a b : List UInt8}, Op.bytesLess a b = false → a ≠ b → ltB b a
  | [], [], _, h => absurd rfl h
  | [], _ :: _, h, _ => by simp [Op.bytesLess] at h
  | _ :: _, [], _, _ => rfl
  | x :: a, y :: b, h, k => by
    simp only [ltB, Op.bytesLess, Bool.or_eq_true, Bool.and_eq_true, decide_eq_true_eq, beq_iff_eq, Bool.or_eq_false_iff, decide_eq_false_iff_not, Bool.and_eq_false_iff, beq_eq_false_iff_ne, ne_eq] at h k ⊢
    by_cases e : x = y
    · subst e
      right
      refine ⟨rfl, ltB_tri (by rcases h.2 with q | q; exact absurd rfl q; exact q) (fun e => k (by rw [e]))⟩
    · left
      have h1 := h.1
      rw [UInt8.lt_iff_toNat_lt] at *
      have : x.toNat ≠ y.toNat := fun q => e (UInt8.toNat_inj.1 q)
      omega
theorem ltB_ne {a b : List UInt8} (h : ltB a b) : a ≠ b := fun e => by subst e; rw [ltB, ltB_irrefl] at h; cases h
theorem ltB_asymm {a b : List UInt8} (h : ltB a b) : Op.bytesLess b a = false := by
  cases k : Op.bytesLess b a
  · rfl
  · have := ltB_trans h k
    rw [ltB, ltB_irrefl] at this
    cases this
theorem cmp_lt : ∀ a b : List UInt8, decide (Lib.compareBytes a b < 0) = Op.bytesLess a b
  | [], [] => rfl
  | [], _ :: _ => rfl
  | _ :: _, [] => rfl
  | x :: a, y :: b => by
    unfold Lib.compareBytes Op.bytesLess
    by_cases h : x < y
    · simp [h]
    · by_cases k : y < x
      · have hne : x ≠ y := fun e => by subst e; exact h k
        simp [h, k, hne]
      · have e : x = y := by
          rw [UInt8.lt_iff_toNat_lt] at h k
          exact UInt8.toNat_inj.1 (by omega)
        subst e
        simp [h, cmp_lt a b]
theorem cmp_eq0 : ∀ a b : List UInt8, (Lib.compareBytes a b == 0) = (a == b)
  | [], [] => rfl
  | [], _ :: _ => rfl
  | _ :: _, [] => rfl
  | x :: a, y :: b => by
    unfold Lib.compareBytes
    by_cases h : x < y
    · have hne : x ≠ y := fun e => by subst e; rw [UInt8.lt_iff_toNat_lt] at h; omega
      simp [h, hne]
    · by_cases k : y < x
      · have hne : x ≠ y := fun e => by subst e; exact h k
        simp [h, k, hne]
      · have e : x = y := by
          rw [UInt8.lt_iff_toNat_lt] at h k
          exact UInt8.toNat_inj.1 (by omega)
        subst e
        simp [h, cmp_eq0 a b]
/-! ### the check -/
def code (cyc : Int) (x : Item) : Int :=
  if ¬ (1 ≤ x.life ∧ x.life ≤ 1048576 ∧ 0 ≤ x.used ∧ x.used ≤ 1048576 ∧ 0 ≤ x.faults ∧ x.faults ≤ 4096) then 2
  else if ¬ (0 ≤ x.since ∧ x.since ≤ cyc ∧ 0 ≤ x.cycles ∧ x.since + x.cycles ≤ cyc) then 2
  else if x.faulty = true ∧ x.faults = 0 then 14 else 0
def over (prev : Option Item) (x : Item) : Bool := match prev with | none => false | some y => Op.bytesLess x.name y.name || x.name == y.name
def chk (cyc : Int) : Option Item → List Item → Int
  | _, [] => 0
  | prev, x :: r => if word x.name ≠ 0 then word x.name else if over prev x = true then 9 else if code cyc x ≠ 0 then code cyc x else chk cyc (some x) r
theorem at?_last {α : Type} {pre r : List α} (h : pre ≠ []) (hb : pre.length ≤ 4611686018427387904) : at? (pre ++ r) (IntKind.wrap .i64 ((pre.length : Int) - 1)) = pre.getLast? := by
  have hp : 0 < pre.length := List.length_pos_iff.2 h
  rw [wrap64 (by omega) (by omega)]
  unfold at?
  rw [if_pos (by omega), List.getLast?_eq_getElem?]
  have e : ((pre.length : Int) - 1).toNat = pre.length - 1 := by omega
  rw [e, List.getElem?_append_left (by omega)]
theorem prev_eq {pre r : List Item} {x : Item} (hb : pre.length ≤ 4611686018427387904) :
    (if (decide ((pre.length : Int) > 0)) = true then (at? (pre ++ x :: r) (IntKind.wrap .i64 ((pre.length : Int) - 1))).bind fun x2 => some (Op.bytesLess x.name x2.name || x.name == x2.name) else some false) = some (over pre.getLast? x) := by
  cases pre with
  | nil => rfl
  | cons y p =>
    rw [if_pos (by rw [decide_eq_true_eq]; simp only [List.length_cons]; omega), at?_last (by simp) hb]
    cases h : (y :: p).getLast? with
    | none => simp at h
    | some z => rfl
theorem item_code (x : Item) (cyc : Int) (h0 : 0 ≤ cyc) (h1 : cyc ≤ 1048576) : ref58_item x cyc = some (code cyc x) := by
  unfold ref58_item code ref58_in
  by_cases a1 : 1 ≤ x.life ∧ x.life ≤ 1048576
  · by_cases a2 : 0 ≤ x.used ∧ x.used ≤ 1048576
    · by_cases a3 : 0 ≤ x.faults ∧ x.faults ≤ 4096
      · have n1 : ¬ ¬ (1 ≤ x.life ∧ x.life ≤ 1048576 ∧ 0 ≤ x.used ∧ x.used ≤ 1048576 ∧ 0 ≤ x.faults ∧ x.faults ≤ 4096) := by omega
        simp only [if_neg n1]
        by_cases a4 : 0 ≤ x.since ∧ x.since ≤ cyc
        · by_cases a5 : 0 ≤ x.cycles ∧ x.cycles ≤ cyc
          · have w : IntKind.wrap .i64 (x.since + x.cycles) = x.since + x.cycles := wrap64 (by omega) (by omega)
            by_cases a6 : x.since + x.cycles ≤ cyc
            · have n2 : ¬ ¬ (0 ≤ x.since ∧ x.since ≤ cyc ∧ 0 ≤ x.cycles ∧ x.since + x.cycles ≤ cyc) := by omega
              simp only [if_neg n2]
              have a6' : ¬ cyc < x.since + x.cycles := by omega
              by_cases a7 : x.faulty = true
              · by_cases a8 : x.faults = 0 <;> simp [a1, a2, a3, a4, a5, a6', a7, a8, w]
              · simp [a1, a2, a3, a4, a5, a6', a7, w]
            · have n2 : ¬ (0 ≤ x.since ∧ x.since ≤ cyc ∧ 0 ≤ x.cycles ∧ x.since + x.cycles ≤ cyc) := by omega
              simp only [if_pos n2]
              have a6' : cyc < x.since + x.cycles := by omega
              simp [a1, a2, a3, a4, a5, a6', w]
          · have a5' : (decide (x.cycles ≥ 0) && decide (x.cycles ≤ cyc)) = false := by rw [← Bool.not_eq_true, Bool.and_eq_true]; simpa using a5
            have a6 : ¬ (0 ≤ x.since ∧ x.since ≤ cyc ∧ 0 ≤ x.cycles ∧ x.since + x.cycles ≤ cyc) := by omega
            simp only [if_pos a6]
            simp [a1, a2, a3, a4, a5']
        · have a4' : (decide (x.since ≥ 0) && decide (x.since ≤ cyc)) = false := by rw [← Bool.not_eq_true, Bool.and_eq_true]; simpa using a4
          have a6 : ¬ (0 ≤ x.since ∧ x.since ≤ cyc ∧ 0 ≤ x.cycles ∧ x.since + x.cycles ≤ cyc) := by omega
          simp only [if_pos a6]
          simp [a1, a2, a3, a4']
      · have a3' : (decide (x.faults ≥ 0) && decide (x.faults ≤ 4096)) = false := by rw [← Bool.not_eq_true, Bool.and_eq_true]; simpa using a3
        have n1 : ¬ (1 ≤ x.life ∧ x.life ≤ 1048576 ∧ 0 ≤ x.used ∧ x.used ≤ 1048576 ∧ 0 ≤ x.faults ∧ x.faults ≤ 4096) := by omega
        simp only [if_pos n1]
        simp [a1, a2, a3']
    · have a2' : (decide (x.used ≥ 0) && decide (x.used ≤ 1048576)) = false := by rw [← Bool.not_eq_true, Bool.and_eq_true]; simpa using a2
      have n1 : ¬ (1 ≤ x.life ∧ x.life ≤ 1048576 ∧ 0 ≤ x.used ∧ x.used ≤ 1048576 ∧ 0 ≤ x.faults ∧ x.faults ≤ 4096) := by omega
      simp only [if_pos n1]
      simp [a1, a2']
  · have a1' : (decide (x.life ≥ 1) && decide (x.life ≤ 1048576)) = false := by rw [← Bool.not_eq_true, Bool.and_eq_true]; simpa using a1
    have n1 : ¬ (1 ≤ x.life ∧ x.life ≤ 1048576 ∧ 0 ≤ x.used ∧ x.used ≤ 1048576 ∧ 0 ≤ x.faults ∧ x.faults ≤ 4096) := by omega
    simp only [if_pos n1]
    simp [a1']
theorem jitem_code (x : Item) (cyc : Int) (k : Option Int) (h0 : 0 ≤ cyc) (h1 : cyc ≤ 1048576) :
    ((journal_in x.life 1 1048576).bind fun r3 =>
            (if (!r3) = true then some true else (journal_in x.used 0 1048576).bind fun r4 =>
            some (!r4)).bind fun c2 =>
            (if c2 = true then some true else (journal_in x.faults 0 4096).bind fun r5 =>
            some (!r5)).bind fun c3 =>
            if c3 = true then
            some 2
          else
            (journal_in x.since 0 cyc).bind fun r6 =>
              (if (!r6) = true then some true else (journal_in x.cycles 0 (IntKind.wrap .i64 (cyc - x.since))).bind fun r7 =>
              some (!r7)).bind fun c4 =>
              if c4 = true then
              some 2
            else
              if (x.faulty && (x.faults == 0)) = true then
                some 14
              else k) = if code cyc x ≠ 0 then some (code cyc x) else k := by
  unfold code journal_in
  by_cases a1 : 1 ≤ x.life ∧ x.life ≤ 1048576
  · by_cases a2 : 0 ≤ x.used ∧ x.used ≤ 1048576
    · by_cases a3 : 0 ≤ x.faults ∧ x.faults ≤ 4096
      · have n1 : ¬ ¬ (1 ≤ x.life ∧ x.life ≤ 1048576 ∧ 0 ≤ x.used ∧ x.used ≤ 1048576 ∧ 0 ≤ x.faults ∧ x.faults ≤ 4096) := by omega
        simp only [if_neg n1]
        by_cases a4 : 0 ≤ x.since ∧ x.since ≤ cyc
        · have w : IntKind.wrap .i64 (cyc - x.since) = cyc - x.since := wrap64 (by omega) (by omega)
          by_cases a5 : 0 ≤ x.cycles ∧ x.cycles ≤ cyc - x.since
          · have n2 : ¬ ¬ (0 ≤ x.since ∧ x.since ≤ cyc ∧ 0 ≤ x.cycles ∧ x.since + x.cycles ≤ cyc) := by omega
            simp only [if_neg n2]
            by_cases a7 : x.faulty = true
            · by_cases a8 : x.faults = 0 <;> simp [a1, a2, a3, a4, a5, a7, a8, w]
            · simp [a1, a2, a3, a4, a5, a7, w]
          · have a5' : (decide (x.cycles ≥ 0) && decide (x.cycles ≤ cyc - x.since)) = false := by rw [← Bool.not_eq_true, Bool.and_eq_true]; simpa using a5
            have a6 : ¬ (0 ≤ x.since ∧ x.since ≤ cyc ∧ 0 ≤ x.cycles ∧ x.since + x.cycles ≤ cyc) := by omega
            simp only [if_pos a6]
            simp [a1, a2, a3, a4, w, a5']
        · have a4' : (decide (x.since ≥ 0) && decide (x.since ≤ cyc)) = false := by rw [← Bool.not_eq_true, Bool.and_eq_true]; simpa using a4
          have a6 : ¬ (0 ≤ x.since ∧ x.since ≤ cyc ∧ 0 ≤ x.cycles ∧ x.since + x.cycles ≤ cyc) := by omega
          simp only [if_pos a6]
          simp [a1, a2, a3, a4']
      · have a3' : (decide (x.faults ≥ 0) && decide (x.faults ≤ 4096)) = false := by rw [← Bool.not_eq_true, Bool.and_eq_true]; simpa using a3
        have n1 : ¬ (1 ≤ x.life ∧ x.life ≤ 1048576 ∧ 0 ≤ x.used ∧ x.used ≤ 1048576 ∧ 0 ≤ x.faults ∧ x.faults ≤ 4096) := by omega
        simp only [if_pos n1]
        simp [a1, a2, a3']
    · have a2' : (decide (x.used ≥ 0) && decide (x.used ≤ 1048576)) = false := by rw [← Bool.not_eq_true, Bool.and_eq_true]; simpa using a2
      have n1 : ¬ (1 ≤ x.life ∧ x.life ≤ 1048576 ∧ 0 ≤ x.used ∧ x.used ≤ 1048576 ∧ 0 ≤ x.faults ∧ x.faults ≤ 4096) := by omega
      simp only [if_pos n1]
      simp [a1, a2']
  · have a1' : (decide (x.life ≥ 1) && decide (x.life ≤ 1048576)) = false := by rw [← Bool.not_eq_true, Bool.and_eq_true]; simpa using a1
    have n1 : ¬ (1 ≤ x.life ∧ x.life ≤ 1048576 ∧ 0 ≤ x.used ∧ x.used ≤ 1048576 ∧ 0 ≤ x.faults ∧ x.faults ≤ 4096) := by omega
    simp only [if_pos n1]
    simp [a1']
def Short (l : List Item) : Prop := ∀ x ∈ l, x.name.length ≤ 60
theorem rcheck_loop (m : Machine) (hc : 0 ≤ m.cycles ∧ m.cycles ≤ 1048576) (hb : m.items.length ≤ 256) (hs : Short m.items) : ∀ (r pre : List Item), m.items = pre ++ r → ref58_Check_loop1 m (some 0) (r.length + 1) (pre.length : Int) = some (chk m.cycles pre.getLast? r)
  | [], pre, e => by
    unfold ref58_Check_loop1
    rw [e, ge_end]
    rfl
  | x :: r, pre, e => by
    have hx : x.name.length ≤ 60 := hs x (by rw [e]; simp)
    have hl : (pre ++ x :: r).length ≤ 256 := by rw [← e]; exact hb
    have hp : pre.length ≤ 4611686018427387904 := by simp at hl; omega
    have ih := rcheck_loop m hc hb hs r (pre ++ [x]) (by rw [e, mid_cons])
    have hlast : (pre ++ [x]).getLast? = some x := by simp
    rw [hlast] at ih
    have hpv := prev_eq (pre := pre) (r := r) (x := x) hp
    unfold ref58_Check_loop1
    rw [e, lt_mid, if_pos rfl, at?_mid, Option.bind_some, rword_eq _ (by omega), Option.bind_some]
    unfold chk
    by_cases h1 : word x.name = 0
    · have b1 : (word x.name != 0) = false := by simp [h1]
      have n1 : ¬ word x.name ≠ 0 := by simp [h1]
      simp only [b1, Bool.false_eq_true, if_false, if_neg n1, Option.bind_some]
      rw [hpv, Option.bind_some]
      cases h2 : over pre.getLast? x
      · simp only [Bool.false_eq_true, if_false]
        rw [item_code x m.cycles hc.1 hc.2, Option.bind_some, wrap_mid (x := x) (r := r) (by omega)]
        by_cases h3 : code m.cycles x = 0
        · have b3 : (code m.cycles x != 0) = false := by simp [h3]
          have n3 : ¬ code m.cycles x ≠ 0 := by simp [h3]
          simp only [b3, Bool.false_eq_true, if_false, if_neg n3]
          exact ih
        · have b3 : (code m.cycles x != 0) = true := by simpa using h3
          simp only [b3, if_true, if_pos h3]
      · simp only [if_true]
    · have b1 : (word x.name != 0) = true := by simpa using h1
      simp only [b1, if_true, if_pos h1]
theorem jcheck_loop (m : Machine) (hc : 0 ≤ m.cycles ∧ m.cycles ≤ 1048576) (hb : m.items.length ≤ 256) (hs : Short m.items) : ∀ (r pre : List Item), m.items = pre ++ r → journal_Check_loop1 m (some 0) (r.length + 1) (pre.length : Int) = some (chk m.cycles pre.getLast? r)
  | [], pre, e => by
    unfold journal_Check_loop1
    rw [e, ge_end]
    rfl
  | x :: r, pre, e => by
    have hx : x.name.length ≤ 60 := hs x (by rw [e]; simp)
    have hl : (pre ++ x :: r).length ≤ 256 := by rw [← e]; exact hb
    have hp : pre.length ≤ 4611686018427387904 := by simp at hl; omega
    have ih := jcheck_loop m hc hb hs r (pre ++ [x]) (by rw [e, mid_cons])
    have hlast : (pre ++ [x]).getLast? = some x := by simp
    rw [hlast] at ih
    have hpv := prev_eq (pre := pre) (r := r) (x := x) hp
    unfold journal_Check_loop1
    rw [e, lt_mid, if_pos rfl, at?_mid, Option.bind_some, lword_eq _ (by omega), Option.bind_some]
    unfold chk
    by_cases h1 : word x.name = 0
    · have b1 : (word x.name != 0) = false := by simp [h1]
      have n1 : ¬ word x.name ≠ 0 := by simp [h1]
      simp only [b1, Bool.false_eq_true, if_false, if_neg n1, Option.bind_some]
      rw [hpv, Option.bind_some]
      cases h2 : over pre.getLast? x
      · simp only [Bool.false_eq_true, if_false]
        rw [jitem_code x m.cycles _ hc.1 hc.2, wrap_mid (x := x) (r := r) (by omega)]
        by_cases h3 : code m.cycles x = 0
        · have b3 : (code m.cycles x != 0) = false := by simp [h3]
          have n3 : ¬ code m.cycles x ≠ 0 := by simp [h3]
          simp only [b3, Bool.false_eq_true, if_false, if_neg n3]
          exact ih
        · have b3 : (code m.cycles x != 0) = true := by simpa using h3
          simp only [b3, if_true, if_pos h3]
      · simp only [if_true]
    · have b1 : (word x.name != 0) = true := by simpa using h1
      simp only [b1, if_true, if_pos h1]
def IOk (cyc : Int) (x : Item) : Prop := word x.name = 0 ∧ 1 ≤ x.life ∧ x.life ≤ 1048576 ∧ 0 ≤ x.used ∧ x.used ≤ 1048576 ∧ 0 ≤ x.faults ∧ x.faults ≤ 4096 ∧ 0 ≤ x.since ∧ 0 ≤ x.cycles ∧ x.since + x.cycles ≤ cyc ∧ (x.faulty = true → x.faults ≠ 0)
structure Good (m : Machine) : Prop where
  c0 : 0 ≤ m.cycles
  c1 : m.cycles ≤ 1048576
  len : m.items.length ≤ 256
  ok : ∀ x ∈ m.items, IOk m.cycles x
  srt : m.items.Pairwise fun x y => ltB x.name y.name
theorem code_zero {cyc : Int} {x : Item} : word x.name = 0 ∧ code cyc x = 0 ↔ IOk cyc x := by
  unfold code IOk
  constructor
  · rintro ⟨h0, h⟩
    split at h
    · cases h
    · split at h
      · cases h
      · split at h
        · cases h
        · rename_i a b c
          exact ⟨h0, by omega, by omega, by omega, by omega, by omega, by omega, by omega, by omega, by omega, fun q1 q2 => c ⟨q1, q2⟩⟩
  · rintro ⟨h0, h1, h2, h3, h4, h5, h6, h7, h8, h9, h10⟩
    refine ⟨h0, ?_⟩
    rw [if_neg (by omega), if_neg (by omega), if_neg (fun q => h10 q.1 q.2)]
theorem chk_zero {cyc : Int} : ∀ {l : List Item} {prev : Option Item}, chk cyc prev l = 0 ↔ (∀ x ∈ l, IOk cyc x) ∧ (l.Pairwise fun x y => ltB x.name y.name) ∧ ∀ y, prev = some y → ∀ x ∈ l, ltB y.name x.name
  | [], prev => by simp [chk]
  | x :: r, prev => by
    unfold chk
    have ih := chk_zero (cyc := cyc) (l := r) (prev := some x)
    by_cases h1 : word x.name = 0
    · rw [if_neg (by simp [h1])]
      cases h2 : over prev x
      · rw [if_neg (by simp)]
        have hov : ∀ y, prev = some y → ltB y.name x.name := fun y e => by
          subst e
          simp only [over, Bool.or_eq_false_iff, beq_eq_false_iff_ne, ne_eq] at h2
          exact ltB_tri h2.1 h2.2
        by_cases h3 : code cyc x = 0
        · rw [if_neg (by simp [h3]), ih]
          have hx := code_zero.1 ⟨h1, h3⟩
          constructor
          · rintro ⟨a, b, c⟩
            refine ⟨fun y hy => ?_, List.pairwise_cons.2 ⟨fun y hy => c x rfl y hy, b⟩, fun y e z hz => ?_⟩
            · rcases List.mem_cons.1 hy with rfl | hy
              · exact hx
              · exact a y hy
            · rcases List.mem_cons.1 hz with rfl | hz
              · exact hov y e
              · exact ltB_trans (hov y e) (c x rfl z hz)
          · rintro ⟨a, b, c⟩
            exact ⟨fun y hy => a y (List.mem_cons_of_mem _ hy), (List.pairwise_cons.1 b).2, fun y e z hz => by cases e; exact (List.pairwise_cons.1 b).1 z hz⟩
        · rw [if_pos h3]
          constructor
          · intro q; exact absurd q h3
          · rintro ⟨a, _⟩
            exact (code_zero.2 (a x (List.mem_cons_self ..))).2
      · rw [if_pos rfl]
        constructor
        · intro q; cases q
        · rintro ⟨_, _, c⟩
          cases prev with
          | none => cases h2
          | some y =>
            have := c y rfl x (List.mem_cons_self ..)
            simp only [over, Bool.or_eq_true, beq_iff_eq] at h2
            rcases h2 with q | q
            · rw [ltB_asymm this] at q; cases q
            · exact absurd q.symm (ltB_ne this)
    · rw [if_pos h1]
      constructor
      · intro q; exact absurd q h1
      · rintro ⟨a, _⟩
        exact absurd (a x (List.mem_cons_self ..)).1 h1
theorem check_eq (m : Machine) (hs : Short m.items) : ∃ c, journal_Check m = some c ∧ ref58_Check m = some c ∧ (c = 0 ↔ Good m) := by
  unfold journal_Check ref58_Check journal_in ref58_in
  simp only [Option.bind_some]
  by_cases hc : 0 ≤ m.cycles ∧ m.cycles ≤ 1048576
  · have hc' : (decide (m.cycles ≥ 0) && decide (m.cycles ≤ 1048576)) = true := by simp [hc]
    rw [hc']
    simp only [Bool.not_true, Bool.false_eq_true, if_false]
    by_cases hl : m.items.length ≤ 256
    · have hl' : decide ((m.items.length : Int) > 256) = false := decide_eq_false (by omega)
      rw [hl']
      simp only [Bool.false_eq_true, if_false, joinK]
      rw [fuel0]
      have e1 := jcheck_loop m hc hl hs m.items [] rfl
      have e2 := rcheck_loop m hc hl hs m.items [] rfl
      simp only [List.length_nil, Int.natCast_zero] at e1 e2
      refine ⟨_, e1, e2, ?_⟩
      rw [chk_zero]
      exact ⟨fun ⟨a, b, _⟩ => ⟨hc.1, hc.2, hl, a, b⟩, fun g => ⟨g.ok, g.srt, fun y e => by cases e⟩⟩
    · have hl' : decide ((m.items.length : Int) > 256) = true := decide_eq_true (by omega)
      rw [hl']
      exact ⟨5, rfl, rfl, by simp; intro g; have := g.len; omega⟩
  · have hc' : (decide (m.cycles ≥ 0) && decide (m.cycles ≤ 1048576)) = false := by rw [← Bool.not_eq_true, Bool.and_eq_true]; simpa using hc
    rw [hc']
    exact ⟨2, rfl, rfl, by simp; intro g; exact hc ⟨g.c0, g.c1⟩⟩
end Go.Proofs.YtcgmhlakihjbkaaGreatDoor.W.J
set_option linter.unusedVariables false
set_option linter.unusedSimpArgs false
namespace Go.Proofs.YtcgmhlakihjbkaaGreatDoor.W.J
open Go Go.RowKit
theorem wrapu64 {x : Int} (h : 0 ≤ x) (k : x ≤ 18446744073709551615) : IntKind.wrap .u64 x = x := by
  unfold IntKind.wrap
  simp [IntKind.bits, IntKind.signed]
  omega
theorem mid_eq {i j : Nat} (h : i + j ≤ 1099511627776) : IntKind.wrap .i64 ((IntKind.wrap .u64 (IntKind.wrap .i64 ((i : Int) + (j : Int)))) / 2 ^ 1) = (((i + j) / 2 : Nat) : Int) := by
  rw [wrap64 (x := (i : Int) + j) (by omega) (by omega), wrapu64 (by omega) (by omega), wrap64 (by omega) (by omega)]
  omega
/-- where a name stands -/
structure Cut (l : List Item) (name : List UInt8) (A : List Item) (o : Option Item) (B : List Item) : Prop where
  eq : l = A ++ (o.toList ++ B)
  lo : ∀ x ∈ A, ltB x.name name
  hit : ∀ y, o = some y → y.name = name
  hi : ∀ x ∈ B, ltB name x.name
theorem cut_of (name : List UInt8) : ∀ l : List Item, (l.Pairwise fun x y => ltB x.name y.name) → ∃ A o B, Cut l name A o B
  | [], _ => ⟨[], none, [], rfl, by simp, by simp, by simp⟩
  | x :: r, h => by
    obtain ⟨h1, h2⟩ := List.pairwise_cons.1 h
    cases k : Op.bytesLess x.name name
    · by_cases e : x.name = name
      · exact ⟨[], some x, r, rfl, by simp, fun y hy => by cases hy; exact e, fun y hy => by rw [← e]; exact h1 y hy⟩
      · have k2 := ltB_tri k e
        refine ⟨[], none, x :: r, rfl, by simp, by simp, fun y hy => ?_⟩
        rcases List.mem_cons.1 hy with rfl | hy
        · exact k2
        · exact ltB_trans k2 (h1 y hy)
    · obtain ⟨A, o, B, c⟩ := cut_of name r h2
      refine ⟨x :: A, o, B, by rw [c.eq]; rfl, fun y hy => ?_, c.hit, c.hi⟩
      rcases List.mem_cons.1 hy with rfl | hy
      · exact k
      · exact c.lo y hy
theorem bs_loop (m : Machine) (name : List UInt8) (k : Int → Option (Int × Bool)) (A B : List Item) (e : m.items = A ++ B) (hA : ∀ x ∈ A, Op.bytesLess x.name name = true) (hB : ∀ x ∈ B, Op.bytesLess x.name name = false) (hb : m.items.length ≤ 1073741824) :
    ∀ fuel i j : Nat, j - i < fuel → i ≤ A.length → A.length ≤ j → j ≤ m.items.length → journal_find_loop1 m name k fuel (i : Int) (j : Int) = k (A.length : Int)
  | 0, i, j, h, _, _, _ => by omega
  | fuel + 1, i, j, h, h1, h2, h3 => by
    unfold journal_find_loop1
    by_cases hij : i < j
    · rw [if_pos (decide_eq_true (by omega)), mid_eq (by omega)]
      have hm : (i + j) / 2 < m.items.length := by omega
      have ha : at? m.items (((i + j) / 2 : Nat) : Int) = some m.items[(i + j) / 2] := by
        unfold at?
        rw [if_pos (by omega), Int.toNat_natCast]
        exact List.getElem?_eq_getElem hm
      rw [ha, Option.bind_some]
      unfold cmpS
      rw [Option.bind_some, cmp_lt]
      by_cases hlt : (i + j) / 2 < A.length
      · have hx : m.items[(i + j) / 2] ∈ A := by
          have : m.items[(i + j) / 2] = A[(i + j) / 2] := by simp [e, List.getElem_append_left hlt]
          rw [this]
          exact List.getElem_mem hlt
        rw [if_pos (hA _ hx), wrap64 (by omega) (by omega)]
        exact bs_loop m name k A B e hA hB hb fuel ((i + j) / 2 + 1) j (by omega) (by omega) h2 h3
      · have hx : m.items[(i + j) / 2] ∈ B := by
          have : m.items[(i + j) / 2] = B[(i + j) / 2 - A.length]'(by rw [e, List.length_append] at hm; omega) := by simp [e, List.getElem_append_right (Nat.le_of_not_lt hlt)]
          rw [this]
          exact List.getElem_mem _
        rw [if_neg (by rw [hB _ hx]; decide)]
        exact bs_loop m name k A B e hA hB hb fuel i ((i + j) / 2) (by omega) h1 (by omega) (by omega)
    · rw [if_neg (by rw [decide_eq_true_eq]; omega)]
      have : i = A.length := by omega
      rw [this]
theorem find_cut {m : Machine} {name : List UInt8} {A B : List Item} {o : Option Item} (c : Cut m.items name A o B) (hb : m.items.length ≤ 1073741824) : journal_find m name = some ((A.length : Int), o.isSome) := by
  unfold journal_find joinK
  have hB : ∀ x ∈ o.toList ++ B, Op.bytesLess x.name name = false := fun x hx => by
    rcases List.mem_append.1 hx with q | q
    · rw [c.hit x (by simpa using q)]
      exact ltB_irrefl _
    · exact ltB_asymm (c.hi x q)
  have e0 := bs_loop m name (fun i3 => (if (decide (i3 < (m.items.length : Int))) = true then (at? m.items i3).bind fun x2 => (cmpS x2.name name).bind fun r2 => some (r2 == 0) else some false).bind fun c1 => some (i3, c1)) A (o.toList ++ B) c.eq c.lo hB hb (m.items.length + 1) 0 m.items.length (by omega) (by omega) (by rw [c.eq, List.length_append]; omega) (Nat.le_refl _)
  simp only [Int.natCast_zero] at e0
  refine Eq.trans e0 ?_
  cases o with
  | none =>
    cases B with
    | nil =>
      have hl : m.items = A := by rw [c.eq]; simp
      rw [hl, if_neg (by simp)]
      rfl
    | cons y B =>
      have hl : m.items = A ++ y :: B := by rw [c.eq]; rfl
      rw [hl, lt_mid, if_pos rfl, at?_mid, Option.bind_some]
      unfold cmpS
      rw [Option.bind_some, cmp_eq0]
      have := ltB_ne (c.hi y (List.mem_cons_self ..))
      have hn : (y.name == name) = false := by simpa using this.symm
      rw [hn]
      rfl
  | some y =>
    have hl : m.items = A ++ y :: B := by rw [c.eq]; rfl
    rw [hl, lt_mid, if_pos rfl, at?_mid, Option.bind_some]
    unfold cmpS
    rw [Option.bind_some, cmp_eq0, c.hit y rfl]
    simp
theorem place_skip (m : Machine) (name : List UInt8) (k : Option Int) (hb : m.items.length ≤ 1073741824) : ∀ (s pre rest : List Item), m.items = pre ++ (s ++ rest) → (∀ x ∈ s, x.name ≠ name) → ref58_Place_loop1 m name k ((s ++ rest).length + 1) (pre.length : Int) = ref58_Place_loop1 m name k (rest.length + 1) ((pre ++ s).length : Int)
  | [], pre, rest, e, h => by simp
  | x :: s, pre, rest, e, h => by
    have e' : m.items = pre ++ x :: (s ++ rest) := e
    have hx : (x.name == name) = false := by simpa using h x (List.mem_cons_self ..)
    rw [show (x :: s ++ rest).length + 1 = (s ++ rest).length + 1 + 1 from rfl]
    conv => lhs; unfold ref58_Place_loop1
    rw [e', lt_mid, if_pos rfl, at?_mid, Option.bind_some, hx, if_neg (by decide), wrap_mid (x := x) (r := s ++ rest) (by rw [← e']; omega)]
    have := place_skip m name k hb s (pre ++ [x]) rest (by rw [e']; simp) (fun y hy => h y (List.mem_cons_of_mem _ hy))
    rw [this]
    simp
theorem place_cut {m : Machine} {name : List UInt8} {A B : List Item} {o : Option Item} (c : Cut m.items name A o B) (hb : m.items.length ≤ 1073741824) : ref58_Place m name = some (if o.isSome then (A.length : Int) else -1) := by
  unfold ref58_Place joinK
  rw [fuel0]
  cases o with
  | none =>
    have hl : m.items = [] ++ ((A ++ B) ++ []) := by rw [c.eq]; simp
    have e0 := place_skip m name (some (-1)) hb (A ++ B) [] [] hl (fun x hx => by
      rcases List.mem_append.1 hx with q | q
      · exact ltB_ne (c.lo x q)
      · exact (ltB_ne (c.hi x q)).symm)
    have hl2 : m.items = (A ++ B) ++ [] := by rw [c.eq]; simp
    have hlen : (A ++ B ++ []).length = m.items.length := congrArg List.length hl2.symm
    rw [hlen] at e0
    simp only [List.length_nil, Int.natCast_zero] at e0
    refine e0.trans ?_
    unfold ref58_Place_loop1
    rw [hl2, show ([] ++ (A ++ B)) = A ++ B from rfl, ge_end]
    rfl
  | some y =>
    have hl : m.items = [] ++ (A ++ y :: B) := by rw [c.eq]; rfl
    have e0 := place_skip m name (some (-1)) hb A [] (y :: B) hl (fun x hx => ltB_ne (c.lo x hx))
    have hlen : (A ++ y :: B).length = m.items.length := congrArg List.length hl.symm
    rw [hlen] at e0
    simp only [List.length_nil, Int.natCast_zero] at e0
    refine e0.trans ?_
    unfold ref58_Place_loop1
    rw [hl, show ([] ++ A) = A from rfl, show ([] ++ (A ++ y :: B)) = A ++ y :: B from rfl, lt_mid, if_pos rfl, at?_mid, Option.bind_some, c.hit y rfl]
    simp
theorem set_mid {α : Type} {A B : List α} {y z : α} : List.set (A ++ y :: B) (Int.toNat (A.length : Int)) z = A ++ z :: B := by
  simp
/-- the entry is right -/
structure GoodE (x : Entry) : Prop where
  k0 : 0 ≤ x.kind
  k1 : x.kind ≤ 5
  nm : word x.name = 0
  cn : (x.kind = 0 ∨ x.kind = 1 ∨ x.kind = 4) → 1 ≤ x.count ∧ x.count ≤ 1048576
  cz : ¬ (x.kind = 0 ∨ x.kind = 1 ∨ x.kind = 4) → x.count = 0
  sn : x.kind = 1 → 0 ≤ x.strokes ∧ x.strokes ≤ 1048576
  sz : x.kind ≠ 1 → x.strokes = 0
def fresh (x : Entry) (cyc : Int) : Item := ⟨x.name, x.count, 0, 0, false, cyc, 0⟩
/-- what an entry does to the item of its name: the error, the cycles, the item -/
def act (x : Entry) (cyc : Int) (y : Item) : Int × Int × Option Item :=
  if x.kind = 1 then
    if y.faulty = true then (14, cyc, none)
    else if cyc + x.count > 1048576 ∨ y.used + x.count * x.strokes > 1048576 then (11, cyc, none)
    else (0, cyc + x.count, some ⟨y.name, y.life, y.used + x.count * x.strokes, y.faults, y.faulty, y.since, y.cycles + x.count⟩)
  else if x.kind = 2 then
    if y.faulty = true then (14, cyc, none)
    else if y.faults = 4096 then (5, cyc, none)
    else (0, cyc, some ⟨y.name, y.life, y.used, y.faults + 1, true, y.since, y.cycles⟩)
  else if x.kind = 3 then
    if y.faulty = true then (0, cyc, some ⟨y.name, y.life, y.used, y.faults, false, y.since, y.cycles⟩)
    else (14, cyc, none)
  else if x.kind = 4 then (0, cyc, some (fresh x cyc))
  else (0, cyc, none)
def fin (A B : List Item) (r : Int × Int × Option Item) : Machine × Int := if r.1 = 0 then (⟨A ++ (r.2.2.toList ++ B), r.2.1⟩, 0) else (⟨[], 0⟩, r.1)
/-- what an entry does to a machine -/
def res (x : Entry) (cyc : Int) (A : List Item) (o : Option Item) (B : List Item) : Machine × Int :=
  match o with
  | some y => if x.kind = 0 then (⟨[], 0⟩, 7) else fin A B (act x cyc y)
  | none => if x.kind = 0 then (if (A ++ B).length = 256 then (⟨[], 0⟩, 5) else (⟨A ++ fresh x cyc :: B, cyc⟩, 0)) else (⟨[], 0⟩, 6)
end Go.Proofs.YtcgmhlakihjbkaaGreatDoor.W.J
set_option linter.unusedVariables false
set_option linter.unusedSimpArgs false
set_option maxHeartbeats 2000000
namespace Go.Proofs.YtcgmhlakihjbkaaGreatDoor.W.J
open Go Go.RowKit
theorem mulB {a b : Int} (h0 : 0 ≤ a) (h1 : a ≤ 1048576) (k0 : 0 ≤ b) (k1 : b ≤ 1048576) : 0 ≤ a * b ∧ a * b ≤ 1099511627776 := by
  refine ⟨Int.mul_nonneg h0 k0, ?_⟩
  have := Int.mul_le_mul h1 k1 k0 (by omega : (0 : Int) ≤ 1048576)
  omega
structure ActW (x : Entry) (cyc : Int) (y : Item) : Prop where
  w1 : IntKind.wrap .i64 (cyc + x.count) = cyc + x.count
  w2 : IntKind.wrap .i64 (x.count * x.strokes) = x.count * x.strokes
  w3 : IntKind.wrap .i64 (y.used + x.count * x.strokes) = y.used + x.count * x.strokes
  w4 : IntKind.wrap .i64 (y.cycles + x.count) = y.cycles + x.count
  w5 : IntKind.wrap .i64 (y.faults + 1) = y.faults + 1
theorem act_wrap {x : Entry} {m : Machine} {y : Item} (g : Good m) (e : GoodE x) (hy : IOk m.cycles y) : ActW x m.cycles y := by
  have hcnt : 0 ≤ x.count ∧ x.count ≤ 1048576 := by
    by_cases h : x.kind = 0 ∨ x.kind = 1 ∨ x.kind = 4
    · have := e.cn h; omega
    · have := e.cz h; omega
  have hst : 0 ≤ x.strokes ∧ x.strokes ≤ 1048576 := by
    by_cases h : x.kind = 1
    · exact e.sn h
    · have := e.sz h; omega
  have hm := mulB hcnt.1 hcnt.2 hst.1 hst.2
  have := g.c0; have := g.c1
  obtain ⟨_, _, _, h3, h4, h5, h6, h7, h8, h9, _⟩ := hy
  exact ⟨wrap64 (by omega) (by omega), wrap64 (by omega) (by omega), wrap64 (by omega) (by omega), wrap64 (by omega) (by omega), wrap64 (by omega) (by omega)⟩
theorem ins_mid {A B : List Item} {z : Item} (h : (A ++ B).length ≤ 256) : insO 64 (A ++ B) (A.length : Int) [z] = some (A ++ z :: B) := by
  unfold insO
  have hl := h
  rw [List.length_append] at hl
  rw [if_pos ⟨by omega, by rw [List.length_append]; omega, by rw [List.length_append]; simp; omega, by rw [List.length_append, maxLen_eq]; simp; omega⟩]
  simp
theorem del_mid {A B : List Item} {y : Item} (h : (A ++ y :: B).length ≤ 256) : delO (A ++ y :: B) (A.length : Int) (IntKind.wrap .i64 ((A.length : Int) + 1)) = some (A ++ B) := by
  have hl := h
  rw [List.length_append, List.length_cons] at hl
  rw [wrap64 (by omega) (by omega)]
  unfold delO
  rw [if_pos ⟨by omega, by omega, by rw [List.length_append, List.length_cons]; omega⟩]
  have : ((A.length : Int) + 1).toNat = (A ++ [y]).length := by simp
  rw [this, mid_cons, List.drop_left]
  simp
theorem jdone_miss {m : Machine} {x : Entry} {A B : List Item} (g : Good m) (e : GoodE x) (c : Cut m.items x.name A none B) : journal_done m x = some (res x m.cycles A none B) := by
  have hl : m.items = A ++ B := by rw [c.eq]; rfl
  have hlen : (A ++ B).length ≤ 256 := by rw [← hl]; exact g.len
  unfold journal_done
  rw [find_cut c (by have := g.len; omega), Option.bind_some]
  have hk0 := e.k0
  unfold res
  by_cases hk : x.kind = 0
  · simp only [hk, Option.isSome_none, Bool.and_false, Bool.false_eq_true, if_false, bne_self_eq_false, Bool.false_and, joinK, BEq.rfl, if_true]
    rw [appO_ok (by have := g.len; simp; omega) (by decide), Option.bind_some, hl]
    by_cases h256 : (A ++ B).length = 256
    · have h1 : (((A ++ B).length : Int) == 256) = true := by simp only [beq_iff_eq]; omega
      rw [h1, if_pos rfl, if_pos h256]
      rfl
    · have h1 : (((A ++ B).length : Int) == 256) = false := by simp only [beq_eq_false_iff_ne, ne_eq]; omega
      rw [h1, if_neg (by decide), ins_mid hlen, if_neg h256]
      rfl
  · have h1 : (x.kind == 0) = false := by simpa using hk
    have h2 : (x.kind != 0) = true := by simpa using hk
    simp only [h1, h2, Option.isSome_none, Bool.false_and, Bool.false_eq_true, if_false, Bool.not_false, Bool.and_self, if_true, if_neg hk]
theorem jdone_hit {m : Machine} {x : Entry} {A B : List Item} {y : Item} (g : Good m) (e : GoodE x) (c : Cut m.items x.name A (some y) B) : journal_done m x = some (res x m.cycles A (some y) B) := by
  have hl : m.items = A ++ y :: B := by rw [c.eq]; rfl
  have hlen : (A ++ y :: B).length ≤ 256 := by rw [← hl]; exact g.len
  have hy : IOk m.cycles y := g.ok y (by rw [hl]; simp)
  have w := act_wrap g e hy
  unfold journal_done
  rw [find_cut c (by have := g.len; omega), Option.bind_some]
  have hk0 := e.k0; have hk1 := e.k1
  by_cases hk : x.kind = 0
  · simp only [res, hk, Option.isSome_some, BEq.rfl, Bool.and_self, if_true]
  · have h1 : (x.kind == 0) = false := by simpa using hk
    simp only [res, if_neg hk, h1, Option.isSome_some, Bool.false_and, Bool.not_true, Bool.and_false, Bool.false_eq_true, if_false, joinK]
    rw [appO_ok (by have := g.len; simp; omega) (by decide), Option.bind_some, hl]
    have hcases : x.kind = 1 ∨ x.kind = 2 ∨ x.kind = 3 ∨ x.kind = 4 ∨ x.kind = 5 := by omega
    rcases hcases with hk | hk | hk | hk | hk
    · simp only [hk, BEq.rfl, if_true, at?_mid, Option.bind_some, act, w.w1, w.w2, w.w3, w.w4]
      cases hf : y.faulty
      · simp only [Bool.false_eq_true, if_false]
        by_cases hq : m.cycles + x.count > 1048576 ∨ y.used + x.count * x.strokes > 1048576
        · have hb : (decide (m.cycles + x.count > 1048576) || decide (y.used + x.count * x.strokes > 1048576)) = true := by simpa using hq
          rw [hb, if_pos rfl, if_pos hq]
          rfl
        · have hb : (decide (m.cycles + x.count > 1048576) || decide (y.used + x.count * x.strokes > 1048576)) = false := by
            rw [← Bool.not_eq_true, Bool.or_eq_true, decide_eq_true_eq, decide_eq_true_eq]
            exact hq
          rw [hb, if_neg (by decide), if_neg hq, set_mid, set_mid]
          rfl
      · simp only [if_true]
        rfl
    · simp only [hk, show ((2 : Int) == 1) = false from rfl, Bool.false_eq_true, if_false, BEq.rfl, if_true, at?_mid, Option.bind_some, act, w.w5, show ¬ ((2 : Int) = 1) from by decide]
      cases hf : y.faulty
      · simp only [Bool.false_eq_true, if_false]
        by_cases hq : y.faults = 4096
        · have hb : (y.faults == 4096) = true := by simpa using hq
          rw [hb, if_pos rfl, if_pos hq]
          rfl
        · have hb : (y.faults == 4096) = false := by simpa using hq
          rw [hb, if_neg (by decide), if_neg hq, set_mid, set_mid]
          rfl
      · simp only [if_true]
        rfl
    · simp only [hk, show ((3 : Int) == 1) = false from rfl, show ((3 : Int) == 2) = false from rfl, Bool.false_eq_true, if_false, BEq.rfl, if_true, at?_mid, Option.bind_some, act, show ¬ ((3 : Int) = 1) from by decide, show ¬ ((3 : Int) = 2) from by decide]
      cases hf : y.faulty
      · rfl
      · simp only [Bool.not_true, Bool.false_eq_true, if_false, if_true]
        rw [set_mid]
        rfl
    · simp only [hk, show ((4 : Int) == 1) = false from rfl, show ((4 : Int) == 2) = false from rfl, show ((4 : Int) == 3) = false from rfl, Bool.false_eq_true, if_false, BEq.rfl, if_true, at?_mid, Option.bind_some, act, show ¬ ((4 : Int) = 1) from by decide, show ¬ ((4 : Int) = 2) from by decide, show ¬ ((4 : Int) = 3) from by decide, set_mid]
      rfl
    · simp only [hk, show ((5 : Int) == 1) = false from rfl, show ((5 : Int) == 2) = false from rfl, show ((5 : Int) == 3) = false from rfl, show ((5 : Int) == 4) = false from rfl, Bool.false_eq_true, if_false, BEq.rfl, if_true, act, show ¬ ((5 : Int) = 1) from by decide, show ¬ ((5 : Int) = 2) from by decide, show ¬ ((5 : Int) = 3) from by decide, show ¬ ((5 : Int) = 4) from by decide]
      rw [del_mid hlen, Option.bind_some]
      rfl
theorem added_skip (m : Machine) (x : Entry) (k : Bool → List Item → Option (Machine × Int)) (hb : m.items.length ≤ 256) : ∀ (s pre rest acc : List Item) (d : Bool), m.items = pre ++ (s ++ rest) → acc.length + s.length ≤ 300 → (d = true ∨ ∀ y ∈ s, ltB y.name x.name) →
    ref58_added_loop1 m x k ((s ++ rest).length + 1) d (pre.length : Int) acc = ref58_added_loop1 m x k (rest.length + 1) d ((pre ++ s).length : Int) (acc ++ s)
  | [], pre, rest, acc, d, e, _, _ => by simp
  | y :: s, pre, rest, acc, d, e, hacc, h => by
    have e' : m.items = pre ++ y :: (s ++ rest) := e
    simp only [List.length_cons] at hacc
    have hc : (if (!d) = true then (at? m.items (pre.length : Int)).bind fun x1 => some (!(Op.bytesLess x1.name x.name || x1.name == x.name)) else some false) = some false := by
      rcases h with h | h
      · subst h; rfl
      · cases d
        · rw [e', at?_mid]
          simp only [Bool.not_false, if_true, Option.bind_some, h y (List.mem_cons_self ..), Bool.true_or, Bool.not_true]
        · rfl
    rw [show (y :: s ++ rest).length + 1 = (s ++ rest).length + 1 + 1 from rfl]
    conv => lhs; unfold ref58_added_loop1
    have hlt : decide ((pre.length : Int) < (m.items.length : Int)) = true := by rw [e']; exact lt_mid
    rw [hlt, if_pos rfl, hc]
    unfold joinK
    simp only [Option.bind_some, Bool.false_eq_true, if_false]
    have hat : at? m.items (pre.length : Int) = some y := by rw [e', at?_mid]
    have hw : IntKind.wrap .i64 ((pre.length : Int) + 1) = ((pre ++ [y]).length : Int) := wrap_mid (x := y) (r := s ++ rest) (by rw [← e']; omega)
    rw [hat, Option.bind_some, appO_ok (by simp; omega) (by decide), Option.bind_some, hw]
    have := added_skip m x k hb s (pre ++ [y]) rest (acc ++ [y]) d (by rw [e']; simp) (by simp; omega) (by
      rcases h with h | h
      · exact .inl h
      · exact .inr fun z hz => h z (List.mem_cons_of_mem _ hz))
    rw [this]
    simp
theorem added_end (m : Machine) (x : Entry) (k : Bool → List Item → Option (Machine × Int)) (d : Bool) (acc : List Item) : ref58_added_loop1 m x k 1 d (m.items.length : Int) acc = k d acc := by
  unfold ref58_added_loop1
  simp
theorem added_miss {m : Machine} {x : Entry} {A B : List Item} (g : Good m) (c : Cut m.items x.name A none B) : ref58_added m x = some (if (A ++ B).length = 256 then (⟨[], 0⟩, 5) else (⟨A ++ fresh x m.cycles :: B, m.cycles⟩, 0)) := by
  have hl : m.items = A ++ B := by rw [c.eq]; rfl
  have hlen : (A ++ B).length ≤ 256 := by rw [← hl]; exact g.len
  have hlen' := hlen
  rw [List.length_append] at hlen'
  unfold ref58_added
  rw [place_cut c (by have := g.len; omega), Option.bind_some]
  simp only [Option.isSome_none, Bool.false_eq_true, if_false, show decide ((-1 : Int) ≥ 0) = false from rfl]
  by_cases h256 : (A ++ B).length = 256
  · have h1 : ((m.items.length : Int) == 256) = true := by rw [hl]; simp only [beq_iff_eq]; omega
    rw [h1, if_pos rfl, if_pos h256]
  · have h1 : ((m.items.length : Int) == 256) = false := by rw [hl]; simp only [beq_eq_false_iff_ne, ne_eq]; omega
    rw [h1, if_neg (by decide), if_neg h256]
    unfold joinK
    dsimp only
    rw [fuel0]
    have e1 := fun k => added_skip m x k g.len A [] B [] false (by rw [hl]; rfl) (by simp; omega) (.inr c.lo)
    have hA : (A ++ B).length + 1 = m.items.length + 1 := by rw [hl]
    simp only [hA, List.length_nil, Int.natCast_zero, List.nil_append] at e1
    rw [e1]
    cases B with
    | nil =>
      have hAl : (A.length : Int) = (m.items.length : Int) := by rw [hl]; simp
      rw [List.length_nil, hAl]
      refine (added_end m x _ false A).trans ?_
      simp only [Bool.not_false, if_true]
      rw [appO_ok (by simp; simp at hlen'; omega) (by decide), Option.bind_some]
      rfl
    | cons y B =>
      have hy := c.hi y (List.mem_cons_self ..)
      have hat : at? m.items (A.length : Int) = some y := by rw [hl, at?_mid]
      have hlt : decide ((A.length : Int) < (m.items.length : Int)) = true := by rw [hl]; exact lt_mid
      have hw : IntKind.wrap .i64 ((A.length : Int) + 1) = ((A ++ [y]).length : Int) := wrap_mid (x := y) (r := B) (by omega)
      rw [List.length_cons]
      conv => lhs; unfold ref58_added_loop1
      have hyn : (y.name == x.name) = false := by simpa using (ltB_ne hy).symm
      simp only [List.length_cons] at hlen'
      rw [hlt, if_pos rfl, hat]
      unfold joinK
      simp only [Bool.not_false, if_true, Option.bind_some, ltB_asymm hy, hyn, Bool.or_self]
      rw [appO_ok (by simp; omega) (by decide), Option.bind_some]
      rw [appO_ok (by simp; omega) (by decide), Option.bind_some, hw]
      have e2 := fun k => added_skip m x k g.len B (A ++ [y]) [] (A ++ [fresh x m.cycles] ++ [y]) true (by rw [hl]; simp) (by simp; omega) (.inl rfl)
      have hB : (B ++ ([] : List Item)).length + 1 = B.length + 1 := by simp
      simp only [hB] at e2
      refine (e2 _).trans ?_
      have hE : ((A ++ [y] ++ B).length : Int) = (m.items.length : Int) := by rw [hl]; simp
      rw [hE, List.length_nil]
      refine (added_end m x _ true _).trans ?_
      simp
theorem rdone_miss {m : Machine} {x : Entry} {A B : List Item} (g : Good m) (e : GoodE x) (c : Cut m.items x.name A none B) : ref58_Done m x = some (res x m.cycles A none B) := by
  unfold ref58_Done res
  by_cases hk : x.kind = 0
  · have h1 : (x.kind == 0) = true := by simpa using hk
    simp only [h1, if_true, added_miss g c, Option.bind_some, if_pos hk]
  · have h1 : (x.kind == 0) = false := by simpa using hk
    simp only [h1, Bool.false_eq_true, if_false, place_cut c (by have := g.len; omega), Option.isSome_none, Option.bind_some, if_neg hk, show decide ((-1 : Int) < 0) = true from rfl, if_true]
theorem rdone_hit {m : Machine} {x : Entry} {A B : List Item} {y : Item} (g : Good m) (e : GoodE x) (c : Cut m.items x.name A (some y) B) : ref58_Done m x = some (res x m.cycles A (some y) B) := by
  have hl : m.items = A ++ y :: B := by rw [c.eq]; rfl
  have hlen : (A ++ y :: B).length ≤ 256 := by rw [← hl]; exact g.len
  have hlen' := hlen
  rw [List.length_append, List.length_cons] at hlen'
  have hy : IOk m.cycles y := g.ok y (by rw [hl]; simp)
  have w := act_wrap g e hy
  have hp := place_cut c (by have := g.len; omega)
  simp only [Option.isSome_some, if_true] at hp
  have hk0 := e.k0; have hk1 := e.k1
  by_cases hk : x.kind = 0
  · have h1 : (x.kind == 0) = true := by simpa using hk
    unfold ref58_Done ref58_added
    have h2 : decide ((A.length : Int) ≥ 0) = true := decide_eq_true (by omega)
    simp only [h1, if_true, hp, Option.bind_some, h2, res, if_pos hk]
  · have h1 : (x.kind == 0) = false := by simpa using hk
    unfold ref58_Done
    have h2 : decide ((A.length : Int) < 0) = false := decide_eq_false (by omega)
    simp only [h1, Bool.false_eq_true, if_false, hp, Option.bind_some, h2, res, if_neg hk, joinK]
    rw [appO_ok (by have := g.len; simp; omega) (by decide), Option.bind_some]
    simp only [List.nil_append, hl, at?_mid, Option.bind_some]
    have hcases : x.kind = 1 ∨ x.kind = 2 ∨ x.kind = 3 ∨ x.kind = 4 ∨ x.kind = 5 := by omega
    rcases hcases with hk | hk | hk | hk | hk
    · simp only [hk, BEq.rfl, if_true, act, w.w1, w.w2, w.w3, w.w4]
      cases hf : y.faulty
      · simp only [Bool.false_eq_true, if_false]
        by_cases hq : m.cycles + x.count > 1048576 ∨ y.used + x.count * x.strokes > 1048576
        · have hb : (decide (m.cycles + x.count > 1048576) || decide (y.used + x.count * x.strokes > 1048576)) = true := by simpa using hq
          rw [hb, if_pos rfl, if_pos hq]
          rfl
        · have hb : (decide (m.cycles + x.count > 1048576) || decide (y.used + x.count * x.strokes > 1048576)) = false := by
            rw [← Bool.not_eq_true, Bool.or_eq_true, decide_eq_true_eq, decide_eq_true_eq]
            exact hq
          rw [hb, if_neg (by decide), if_neg hq, set_mid]
          rfl
      · simp only [if_true]
        rfl
    · simp only [hk, show ((2 : Int) == 1) = false from rfl, Bool.false_eq_true, if_false, BEq.rfl, if_true, act, w.w5, show ¬ ((2 : Int) = 1) from by decide]
      cases hf : y.faulty
      · simp only [Bool.false_eq_true, if_false]
        by_cases hq : y.faults = 4096
        · have hb : (y.faults == 4096) = true := by simpa using hq
          rw [hb, if_pos rfl, if_pos hq]
          rfl
        · have hb : (y.faults == 4096) = false := by simpa using hq
          rw [hb, if_neg (by decide), if_neg hq, set_mid]
          rfl
      · simp only [if_true]
        rfl
    · simp only [hk, show ((3 : Int) == 1) = false from rfl, show ((3 : Int) == 2) = false from rfl, Bool.false_eq_true, if_false, BEq.rfl, if_true, act, show ¬ ((3 : Int) = 1) from by decide, show ¬ ((3 : Int) = 2) from by decide]
      cases hf : y.faulty
      · rfl
      · simp only [Bool.not_true, Bool.false_eq_true, if_false, if_true]
        rw [set_mid]
        rfl
    · simp only [hk, show ((4 : Int) == 1) = false from rfl, show ((4 : Int) == 2) = false from rfl, show ((4 : Int) == 3) = false from rfl, Bool.false_eq_true, if_false, BEq.rfl, if_true, act, show ¬ ((4 : Int) = 1) from by decide, show ¬ ((4 : Int) = 2) from by decide, show ¬ ((4 : Int) = 3) from by decide, set_mid]
      rfl
    · simp only [hk, show ((5 : Int) == 1) = false from rfl, show ((5 : Int) == 2) = false from rfl, show ((5 : Int) == 3) = false from rfl, show ((5 : Int) == 4) = false from rfl, Bool.false_eq_true, if_false, BEq.rfl, if_true, act, show ¬ ((5 : Int) = 1) from by decide, show ¬ ((5 : Int) = 2) from by decide, show ¬ ((5 : Int) = 3) from by decide, show ¬ ((5 : Int) = 4) from by decide]
      have hw : IntKind.wrap .i64 ((A.length : Int) + 1) = ((A ++ [y]).length : Int) := wrap_mid (x := y) (r := B) (by omega)
      have p1 : part? (A ++ y :: B) 0 (A.length : Int) = some A := by
        unfold part?
        rw [if_pos ⟨by omega, by omega, by rw [List.length_append]; omega⟩]
        simp
      have p2 : part? (A ++ y :: B) ((A ++ [y]).length : Int) ((A ++ y :: B).length : Int) = some B := by
        unfold part?
        rw [if_pos ⟨by omega, by simp only [List.length_append, List.length_cons, List.length_nil]; omega, by omega⟩]
        rw [Int.toNat_natCast, Int.toNat_natCast, mid_cons, List.drop_left, List.take_of_length_le (by simp only [List.length_append, List.length_cons, List.length_nil]; omega)]
      rw [hw, p1, Option.bind_some, p2, Option.bind_some, appO_ok (by first | (simp; omega) | omega) (by decide), Option.bind_some, appO_ok (by first | omega | (simp; omega)) (by decide), Option.bind_some]
      rfl
end Go.Proofs.YtcgmhlakihjbkaaGreatDoor.W.J
set_option linter.unusedVariables false
set_option linter.unusedSimpArgs false
set_option maxHeartbeats 2000000
namespace Go.Proofs.YtcgmhlakihjbkaaGreatDoor.W.J
open Go Go.RowKit
def rcode (x : Entry) : Int :=
  if ¬ (0 ≤ x.kind ∧ x.kind ≤ 5) then 1 else if word x.name ≠ 0 then word x.name
  else if x.kind = 0 ∨ x.kind = 1 ∨ x.kind = 4 then
    (if ¬ (1 ≤ x.count ∧ x.count ≤ 1048576) then 2 else if x.kind = 1 then (if ¬ (0 ≤ x.strokes ∧ x.strokes ≤ 1048576) then 2 else 0) else if x.strokes ≠ 0 then 2 else 0)
  else if x.count ≠ 0 then 2 else if x.strokes ≠ 0 then 2 else 0
theorem rcode_zero {x : Entry} : rcode x = 0 ↔ GoodE x := by
  unfold rcode
  constructor
  · intro h
    split at h
    · cases h
    · rename_i hk
      split at h
      · rename_i hw; exact absurd h hw
      · rename_i hw
        have hw0 : word x.name = 0 := Decidable.not_not.1 hw
        split at h
        · rename_i hc
          split at h
          · cases h
          · split at h
            · rename_i h1
              split at h
              · cases h
              · exact ⟨by omega, by omega, hw0, fun _ => by omega, fun q => absurd hc q, fun _ => by omega, fun q => absurd h1 q⟩
            · rename_i h1
              split at h
              · cases h
              · exact ⟨by omega, by omega, hw0, fun _ => by omega, fun q => absurd hc q, fun q => absurd q h1, fun _ => by omega⟩
        · rename_i hc
          split at h
          · cases h
          · split at h
            · cases h
            · exact ⟨by omega, by omega, hw0, fun q => absurd q hc, fun _ => by omega, fun q => absurd (.inr (.inl q)) hc, fun _ => by omega⟩
  · intro e
    have := e.k0; have := e.k1
    rw [if_neg (by omega), if_neg (by rw [e.nm]; simp)]
    by_cases hc : x.kind = 0 ∨ x.kind = 1 ∨ x.kind = 4
    · have := e.cn hc
      rw [if_pos hc, if_neg (by omega)]
      by_cases h1 : x.kind = 1
      · have := e.sn h1
        rw [if_pos h1, if_neg (by omega)]
      · have := e.sz h1
        rw [if_neg h1, if_neg (by omega)]
    · have := e.cz hc
      have := e.sz (fun q => hc (.inr (.inl q)))
      rw [if_neg hc, if_neg (by omega), if_neg (by omega)]
theorem in_dec {a lo hi : Int} : (decide (a ≥ lo) && decide (a ≤ hi)) = decide (lo ≤ a ∧ a ≤ hi) := by
  by_cases h : lo ≤ a ∧ a ≤ hi
  · simp [h]
  · rw [decide_eq_false h, ← Bool.not_eq_true, Bool.and_eq_true]
    simpa using h
theorem right_eq (x : Entry) (hn : x.name.length ≤ 60) : journal_Right x = some (rcode x) ∧ ref58_Right x = some (rcode x) := by
  obtain ⟨kind, name, count, strokes⟩ := x
  have hn' : name.length ≤ 60 := hn
  unfold journal_Right ref58_Right rcode journal_in ref58_in ref58_counted joinK
  simp only [in_dec, lword_eq name (by omega), rword_eq name (by omega), Option.bind_some]
  by_cases hk : 0 ≤ kind ∧ kind ≤ 5
  · simp only [decide_eq_true hk, Bool.not_true, Bool.false_eq_true, if_false, if_neg (not_not_intro hk)]
    by_cases hw : word name = 0
    · simp only [hw, bne_self_eq_false, Bool.false_eq_true, if_false, ne_eq, not_true_eq_false]
      have hcases : kind = 0 ∨ kind = 1 ∨ kind = 2 ∨ kind = 3 ∨ kind = 4 ∨ kind = 5 := by omega
      by_cases h1 : 1 ≤ count ∧ count ≤ 1048576 <;> by_cases h2 : 0 ≤ strokes ∧ strokes ≤ 1048576 <;> by_cases h3 : count = 0 <;> by_cases h4 : strokes = 0 <;> rcases hcases with rfl | rfl | rfl | rfl | rfl | rfl <;> simp [h1, h2, h3, h4]
    · have b : (word name != 0) = true := by simpa using hw
      simp only [b, if_true, ne_eq, hw, not_false_eq_true]
      exact ⟨trivial, trivial⟩
  · simp only [decide_eq_false hk, Bool.not_false, if_true, if_pos hk]
    exact ⟨trivial, trivial⟩
theorem fresh_ok {x : Entry} {cyc : Int} (hw : word x.name = 0) (h1 : 1 ≤ x.count) (h2 : x.count ≤ 1048576) (h3 : 0 ≤ cyc) : IOk cyc (fresh x cyc) :=
  ⟨hw, h1, h2, Int.le_refl 0, by show (0 : Int) ≤ 1048576; decide, Int.le_refl 0, by show (0 : Int) ≤ 4096; decide, h3, Int.le_refl 0, by show cyc + 0 ≤ cyc; omega, fun q => by cases q⟩
theorem act_good {x : Entry} {m : Machine} {y : Item} (g : Good m) (e : GoodE x) (hy : IOk m.cycles y) (h : (act x m.cycles y).1 = 0) : m.cycles ≤ (act x m.cycles y).2.1 ∧ (act x m.cycles y).2.1 ≤ 1048576 ∧ ∀ z, (act x m.cycles y).2.2 = some z → IOk (act x m.cycles y).2.1 z ∧ (x.kind = 4 → z.name = x.name) ∧ (x.kind ≠ 4 → z.name = y.name) := by
  have hcnt : 0 ≤ x.count ∧ x.count ≤ 1048576 := by
    by_cases h : x.kind = 0 ∨ x.kind = 1 ∨ x.kind = 4
    · have := e.cn h; omega
    · have := e.cz h; omega
  have hst : 0 ≤ x.strokes ∧ x.strokes ≤ 1048576 := by
    by_cases h : x.kind = 1
    · exact e.sn h
    · have := e.sz h; omega
  have hm := mulB hcnt.1 hcnt.2 hst.1 hst.2
  have := g.c0; have := g.c1
  obtain ⟨h0, h1, h2, h3, h4, h5, h6, h7, h8, h9, h10⟩ := hy
  unfold act at h ⊢
  by_cases k1 : x.kind = 1
  · simp only [if_pos k1] at h ⊢
    cases hf : y.faulty
    · simp only [hf, Bool.false_eq_true, if_false] at h ⊢
      by_cases hq : m.cycles + x.count > 1048576 ∨ y.used + x.count * x.strokes > 1048576
      · simp only [if_pos hq] at h; cases h
      · simp only [if_neg hq] at h ⊢
        refine ⟨by omega, by omega, fun z hz => ?_⟩
        cases hz
        exact ⟨⟨h0, h1, h2, by show 0 ≤ y.used + x.count * x.strokes; omega, by show y.used + x.count * x.strokes ≤ 1048576; omega, h5, h6, h7, by show 0 ≤ y.cycles + x.count; omega, by show y.since + (y.cycles + x.count) ≤ m.cycles + x.count; omega, fun q => by cases q⟩, fun q => by omega, fun _ => rfl⟩
    · simp only [hf, if_true] at h; cases h
  · simp only [if_neg k1] at h ⊢
    by_cases k2 : x.kind = 2
    · simp only [if_pos k2] at h ⊢
      cases hf : y.faulty
      · simp only [hf, Bool.false_eq_true, if_false] at h ⊢
        by_cases hq : y.faults = 4096
        · simp only [if_pos hq] at h; cases h
        · simp only [if_neg hq] at h ⊢
          refine ⟨by omega, by omega, fun z hz => ?_⟩
          cases hz
          exact ⟨⟨h0, h1, h2, h3, h4, by show 0 ≤ y.faults + 1; omega, by show y.faults + 1 ≤ 4096; omega, h7, h8, h9, fun _ => by show y.faults + 1 ≠ 0; omega⟩, fun q => by omega, fun _ => rfl⟩
      · simp only [hf, if_true] at h; cases h
    · simp only [if_neg k2] at h ⊢
      by_cases k3 : x.kind = 3
      · simp only [if_pos k3] at h ⊢
        cases hf : y.faulty
        · simp only [hf, Bool.false_eq_true, if_false] at h; cases h
        · simp only [hf, if_true] at h ⊢
          refine ⟨by omega, by omega, fun z hz => ?_⟩
          cases hz
          exact ⟨⟨h0, h1, h2, h3, h4, h5, h6, h7, h8, h9, fun q => by cases q⟩, fun q => by omega, fun _ => rfl⟩
      · simp only [if_neg k3] at h ⊢
        by_cases k4 : x.kind = 4
        · simp only [if_pos k4] at h ⊢
          have hc := e.cn (.inr (.inr k4))
          refine ⟨by omega, by omega, fun z hz => ?_⟩
          cases hz
          exact ⟨fresh_ok e.nm hc.1 hc.2 g.c0, fun _ => rfl, fun q => absurd k4 q⟩
        · simp only [if_neg k4] at h ⊢
          exact ⟨by omega, by omega, fun z hz => by cases hz⟩
theorem IOk.more {a b : Int} {x : Item} (h : IOk a x) (k : a ≤ b) : IOk b x := by
  obtain ⟨h0, h1, h2, h3, h4, h5, h6, h7, h8, h9, h10⟩ := h
  exact ⟨h0, h1, h2, h3, h4, h5, h6, h7, h8, by omega, h10⟩
theorem cut_srt {l : List Item} {name : List UInt8} {A B : List Item} {o : Option Item} (c : Cut l name A o B) (s : l.Pairwise fun x y => ltB x.name y.name) : (A.Pairwise fun x y => ltB x.name y.name) ∧ (B.Pairwise fun x y => ltB x.name y.name) := by
  rw [c.eq] at s
  obtain ⟨h1, h2, _⟩ := List.pairwise_append.1 s
  exact ⟨h1, (List.pairwise_append.1 h2).2.1⟩
theorem srt_mk {name : List UInt8} {A B : List Item} {o : Option Item} (hA : A.Pairwise fun x y => ltB x.name y.name) (hB : B.Pairwise fun x y => ltB x.name y.name) (lo : ∀ x ∈ A, ltB x.name name) (hi : ∀ x ∈ B, ltB name x.name) (ho : ∀ y, o = some y → y.name = name) : (A ++ (o.toList ++ B)).Pairwise fun x y => ltB x.name y.name := by
  refine List.pairwise_append.2 ⟨hA, ?_, fun x hx y hy => ?_⟩
  · cases o with
    | none => exact hB
    | some z => exact List.pairwise_cons.2 ⟨fun y hy => by rw [ho z rfl]; exact hi y hy, hB⟩
  · rcases List.mem_append.1 hy with q | q
    · rw [ho y (by simpa using q)]
      exact lo x hx
    · exact ltB_trans (lo x hx) (hi y q)
theorem res_good {x : Entry} {m : Machine} {A B : List Item} {o : Option Item} (g : Good m) (e : GoodE x) (c : Cut m.items x.name A o B) (h : (res x m.cycles A o B).2 = 0) : Good (res x m.cycles A o B).1 := by
  have hs := cut_srt c g.srt
  have hlen : A.length + (o.toList.length + B.length) ≤ 256 := by
    have := g.len
    rw [c.eq, List.length_append, List.length_append] at this
    exact this
  have hokA : ∀ z ∈ A, IOk m.cycles z := fun z hz => g.ok z (by rw [c.eq]; simp [hz])
  have hokB : ∀ z ∈ B, IOk m.cycles z := fun z hz => g.ok z (by rw [c.eq]; simp [hz])
  cases o with
  | none =>
    unfold res at h ⊢
    simp only at h ⊢
    by_cases k0 : x.kind = 0
    · rw [if_pos k0] at h ⊢
      by_cases h256 : (A ++ B).length = 256
      · rw [if_pos h256] at h; cases h
      · rw [if_neg h256] at h ⊢
        have hc := e.cn (.inl k0)
        have := g.c0
        simp only [Option.toList_none, List.length_nil, Nat.zero_add] at hlen
        rw [List.length_append] at h256
        refine ⟨g.c0, g.c1, ?_, fun z hz => ?_, ?_⟩
        · simp only [List.length_append, List.length_cons]
          omega
        · rcases List.mem_append.1 hz with q | q
          · exact hokA z q
          · rcases List.mem_cons.1 q with rfl | q
            · exact fresh_ok e.nm hc.1 hc.2 g.c0
            · exact hokB z q
        · exact srt_mk (o := some (fresh x m.cycles)) hs.1 hs.2 c.lo c.hi (fun y hy => by cases hy; rfl)
    · rw [if_neg k0] at h; cases h
  | some y =>
    have hy : IOk m.cycles y := g.ok y (by rw [c.eq]; simp)
    unfold res at h ⊢
    simp only at h ⊢
    by_cases k0 : x.kind = 0
    · rw [if_pos k0] at h; cases h
    · rw [if_neg k0] at h ⊢
      unfold fin at h ⊢
      by_cases ha : (act x m.cycles y).1 = 0
      · rw [if_pos ha] at h ⊢
        obtain ⟨b1, b2, b3⟩ := act_good g e hy ha
        have := g.c0
        have hol : (act x m.cycles y).2.2.toList.length ≤ 1 := by cases (act x m.cycles y).2.2 <;> simp
        simp only [Option.toList_some, List.length_cons, List.length_nil] at hlen
        refine ⟨by show 0 ≤ (act x m.cycles y).2.1; omega, b2, ?_, fun z hz => ?_, ?_⟩
        · simp only [List.length_append]
          omega
        · rcases List.mem_append.1 hz with q | q
          · exact (hokA z q).more b1
          · rcases List.mem_append.1 q with q | q
            · exact (b3 z (by simpa using q)).1
            · exact (hokB z q).more b1
        · refine srt_mk hs.1 hs.2 c.lo c.hi (fun z hz => ?_)
          by_cases k4 : x.kind = 4
          · exact (b3 z hz).2.1 k4
          · rw [(b3 z hz).2.2 k4]
            exact c.hit y rfl
      · rw [if_neg ha] at h
        exact absurd h ha
theorem res_bad {x : Entry} {cyc : Int} {A B : List Item} {o : Option Item} (h : (res x cyc A o B).2 ≠ 0) : (res x cyc A o B).1 = ⟨[], 0⟩ := by
  unfold res fin at h ⊢
  repeat' split
  all_goals first | rfl | (exfalso; simp_all)
theorem done_eq {m : Machine} {x : Entry} {A B : List Item} {o : Option Item} (g : Good m) (e : GoodE x) (c : Cut m.items x.name A o B) : journal_done m x = some (res x m.cycles A o B) ∧ ref58_Done m x = some (res x m.cycles A o B) := by
  cases o with
  | none => exact ⟨jdone_miss g e c, rdone_miss g e c⟩
  | some y => exact ⟨jdone_hit g e c, rdone_hit g e c⟩
theorem good_short {m : Machine} (g : Good m) : Short m.items := fun x hx => by
  have h := (g.ok x hx).1
  cases hn : x.name with
  | nil => simp
  | cons b r =>
    rw [hn, word_cons] at h
    split at h
    · cases h
    · split at h
      · cases h
      · split at h
        · cases h
        · omega
theorem goodE_short {x : Entry} (e : GoodE x) : x.name.length ≤ 24 := by
  have h := e.nm
  cases hn : x.name with
  | nil => simp
  | cons b r =>
    rw [hn, word_cons] at h
    split at h
    · cases h
    · split at h
      · cases h
      · split at h
        · cases h
        · omega
theorem do_good {m : Machine} {x : Entry} {A B : List Item} {o : Option Item} (g : Good m) (e : GoodE x) (c : Cut m.items x.name A o B) : journal_Do m x = some (res x m.cycles A o B) ∧ ref58_Do m x = some (res x m.cycles A o B) := by
  obtain ⟨k, h1, h2, h3⟩ := check_eq m (good_short g)
  obtain ⟨r1, r2⟩ := right_eq x (by have := goodE_short e; omega)
  obtain ⟨d1, d2⟩ := done_eq g e c
  have hk := h3.2 g
  have hr := rcode_zero.2 e
  subst hk
  rw [hr] at r1 r2
  unfold journal_Do ref58_Do
  rw [h1, h2, r1, r2, d1, d2]
  exact ⟨rfl, rfl⟩
/-- Do, of both sides -/
theorem do_eq (m : Machine) (x : Entry) (hs : Short m.items) (hn : x.name.length ≤ 60) : ∃ r, journal_Do m x = some r ∧ ref58_Do m x = some r ∧ r.1.items.length ≤ 256 ∧ (r.2 = 0 → Good m ∧ GoodE x ∧ Good r.1) := by
  obtain ⟨k, h1, h2, h3⟩ := check_eq m hs
  obtain ⟨r1, r2⟩ := right_eq x hn
  by_cases g : Good m
  · by_cases e : GoodE x
    · obtain ⟨A, o, B, c⟩ := cut_of x.name m.items g.srt
      obtain ⟨d1, d2⟩ := do_good g e c
      refine ⟨_, d1, d2, ?_, fun h => ⟨g, e, res_good g e c h⟩⟩
      by_cases h : (res x m.cycles A o B).2 = 0
      · exact (res_good g e c h).len
      · rw [res_bad h]
        simp
    · have hr : rcode x ≠ 0 := fun q => e (rcode_zero.1 q)
      have hk := h3.2 g
      subst hk
      have b : (rcode x != 0) = true := by simpa using hr
      refine ⟨(⟨[], 0⟩, rcode x), ?_, ?_, by simp, fun h => absurd h hr⟩
      · unfold journal_Do
        rw [h1, r1]
        simp only [Option.bind_some, bne_self_eq_false, Bool.false_eq_true, if_false, b, if_true]
      · unfold ref58_Do
        rw [h2, r2]
        simp only [Option.bind_some, bne_self_eq_false, Bool.false_eq_true, if_false, b, if_true]
  · have hk : k ≠ 0 := fun q => g (h3.1 q)
    have b : (k != 0) = true := by simpa using hk
    refine ⟨(⟨[], 0⟩, k), ?_, ?_, by simp, fun h => absurd h hk⟩
    · unfold journal_Do
      rw [h1]
      simp only [Option.bind_some, b, if_true]
    · unfold ref58_Do
      rw [h2]
      simp only [Option.bind_some, b, if_true]
end Go.Proofs.YtcgmhlakihjbkaaGreatDoor.W.J
