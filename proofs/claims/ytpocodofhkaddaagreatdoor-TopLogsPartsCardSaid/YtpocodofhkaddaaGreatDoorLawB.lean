/- The plain laws of the journal, second part: order of names, the check of a machine. -/
import Derived.Test.YtpocodofhkaddaaGreatDoorLaw
set_option linter.unusedVariables false
set_option linter.unusedSimpArgs false
namespace Go.Proofs.YtpocodofhkaddaaGreatDoor.W
open Go Go.RowKit
abbrev ltB (a b : List UInt8) : Prop := Op.bytesLess a b = true
theorem ltB_irrefl : ∀ a : List UInt8, Op.bytesLess a a = false
  | [] => rfl
  | x :: r => by
    unfold Op.bytesLess
    rw [ltB_irrefl r]
    simp
theorem ltB_trans : ∀ {a b c : List UInt8}, ltB a b → ltB b c → ltB a c
  | _, [], _, h, _ => by cases ‹List UInt8› <;> simp [ltB, Op.bytesLess] at h
  | _, _ :: _, [], _, h => by simp [ltB, Op.bytesLess] at h
  | [], _ :: _, _ :: _, _, _ => rfl
  | x :: a, y :: b, z :: c, h, k => by
    simp only [ltB, Op.bytesLess, Bool.or_eq_true, Bool.and_eq_true, decide_eq_true_eq, beq_iff_eq] at h k ⊢
    rcases h with h | ⟨rfl, h⟩
    · rcases k with k | ⟨rfl, k⟩
      · left; rw [UInt8.lt_iff_toNat_lt] at *; omega
      · left; exact h
    · rcases k with k | ⟨rfl, k⟩
      · left; exact k
      · right; exact ⟨rfl, ltB_trans h k⟩
theorem ltB_tri : ∀ {a b : List UInt8}, Op.bytesLess a b = false → a ≠ b → ltB b a
  | [], [], _, h => absurd rfl h
  | [], _ :: _, h, _ => by simp [Op.bytesLess] at h
  | _ :: _, [], _, _ => rfl
  | x :: a, y :: b, h, k => by
    simp only [ltB, Op.bytesLess, Bool.or_eq_true, Bool.and_eq_true, decide_eq_true_eq, beq_iff_eq, Bool.or_eq_false_iff, decide_eq_false_iff_not, Bool.and_eq_false_iff, beq_eq_false_iff_ne, ne_eq] at h k ⊢
    by_cases e : x = y
    · subst e
      right
      refine ⟨rfl, ltB_tri (by rcases h.2 with q | q; exact absurd rfl q; exact q) (fun e => k (by rw [e]))⟩
    · left
      have h1 := h.1
      rw [UInt8.lt_iff_toNat_lt] at *
      have : x.toNat ≠ y.toNat := fun q => e (UInt8.toNat_inj.1 q)
      omega
theorem ltB_ne {a b : List UInt8} (h : ltB a b) : a ≠ b := fun e => by subst e; rw [ltB, ltB_irrefl] at h; cases h
theorem ltB_asymm {a b : List UInt8} (h : ltB a b) : Op.bytesLess b a = false := by
  cases k : Op.bytesLess b a
  · rfl
  · have := ltB_trans h k
    rw [ltB, ltB_irrefl] at this
    cases this
theorem cmp_lt : ∀ a b : List UInt8, decide (Lib.compareBytes a b < 0) = Op.bytesLess a b
  | [], [] => rfl
  | [], _ :: _ => rfl
  | _ :: _, [] => rfl
  | x :: a, y :: b => by
    unfold Lib.compareBytes Op.bytesLess
    by_cases h : x < y
    · simp [h]
    · by_cases k : y < x
      · have hne : x ≠ y := fun e => by subst e; exact h k
        simp [h, k, hne]
      · have e : x = y := by
          rw [UInt8.lt_iff_toNat_lt] at h k
          exact UInt8.toNat_inj.1 (by omega)
        subst e
        simp [h, cmp_lt a b]
theorem cmp_eq0 : ∀ a b : List UInt8, (Lib.compareBytes a b == 0) = (a == b)
  | [], [] => rfl
  | [], _ :: _ => rfl
  | _ :: _, [] => rfl
  | x :: a, y :: b => by
    unfold Lib.compareBytes
    by_cases h : x < y
    · have hne : x ≠ y := fun e => by subst e; rw [UInt8.lt_iff_toNat_lt] at h; omega
      simp [h, hne]
    · by_cases k : y < x
      · have hne : x ≠ y := fun e => by subst e; exact h k
        simp [h, k, hne]
      · have e : x = y := by
          rw [UInt8.lt_iff_toNat_lt] at h k
          exact UInt8.toNat_inj.1 (by omega)
        subst e
        simp [h, cmp_eq0 a b]
/-! ### the check -/
def code (cyc : Int) (x : Item) : Int :=
  if ¬ (1 ≤ x.life ∧ x.life ≤ 1048576 ∧ 0 ≤ x.used ∧ x.used ≤ 1048576 ∧ 0 ≤ x.faults ∧ x.faults ≤ 4096) then 2
  else if ¬ (0 ≤ x.since ∧ x.since ≤ cyc ∧ 0 ≤ x.cycles ∧ x.since + x.cycles ≤ cyc) then 2
  else if x.faulty = true ∧ x.faults = 0 then 14 else 0
def over (prev : Option Item) (x : Item) : Bool := match prev with | none => false | some y => Op.bytesLess x.name y.name || x.name == y.name
def chk (cyc : Int) : Option Item → List Item → Int
  | _, [] => 0
  | prev, x :: r => if word x.name ≠ 0 then word x.name else if over prev x = true then 9 else if code cyc x ≠ 0 then code cyc x else chk cyc (some x) r
theorem at?_last {α : Type} {pre r : List α} (h : pre ≠ []) (hb : pre.length ≤ 4611686018427387904) : at? (pre ++ r) (IntKind.wrap .i64 ((pre.length : Int) - 1)) = pre.getLast? := by
  have hp : 0 < pre.length := List.length_pos_iff.2 h
  rw [wrap64 (by omega) (by omega)]
  unfold at?
  rw [if_pos (by omega), List.getLast?_eq_getElem?]
  have e : ((pre.length : Int) - 1).toNat = pre.length - 1 := by omega
  rw [e, List.getElem?_append_left (by omega)]
theorem prev_eq {pre r : List Item} {x : Item} (hb : pre.length ≤ 4611686018427387904) :
    (if (decide ((pre.length : Int) > 0)) = true then (at? (pre ++ x :: r) (IntKind.wrap .i64 ((pre.length : Int) - 1))).bind fun x2 => some (Op.bytesLess x.name x2.name || x.name == x2.name) else some false) = some (over pre.getLast? x) := by
  cases pre with
  | nil => rfl
  | cons y p =>
    rw [if_pos (by rw [decide_eq_true_eq]; simp only [List.length_cons]; omega), at?_last (by simp) hb]
    cases h : (y :: p).getLast? with
    | none => simp at h
    | some z => rfl
theorem item_code (x : Item) (cyc : Int) (h0 : 0 ≤ cyc) (h1 : cyc ≤ 1048576) : ref58_item x cyc = some (code cyc x) := by
  unfold ref58_item code ref58_in
  by_cases a1 : 1 ≤ x.life ∧ x.life ≤ 1048576
  · by_cases a2 : 0 ≤ x.used ∧ x.used ≤ 1048576
    · by_cases a3 : 0 ≤ x.faults ∧ x.faults ≤ 4096
      · have n1 : ¬ ¬ (1 ≤ x.life ∧ x.life ≤ 1048576 ∧ 0 ≤ x.used ∧ x.used ≤ 1048576 ∧ 0 ≤ x.faults ∧ x.faults ≤ 4096) := by omega
        simp only [if_neg n1]
        by_cases a4 : 0 ≤ x.since ∧ x.since ≤ cyc
        · by_cases a5 : 0 ≤ x.cycles ∧ x.cycles ≤ cyc
          · have w : IntKind.wrap .i64 (x.since + x.cycles) = x.since + x.cycles := wrap64 (by omega) (by omega)
            by_cases a6 : x.since + x.cycles ≤ cyc
            · have n2 : ¬ ¬ (0 ≤ x.since ∧ x.since ≤ cyc ∧ 0 ≤ x.cycles ∧ x.since + x.cycles ≤ cyc) := by omega
              simp only [if_neg n2]
              have a6' : ¬ cyc < x.since + x.cycles := by omega
              by_cases a7 : x.faulty = true
              · by_cases a8 : x.faults = 0 <;> simp [a1, a2, a3, a4, a5, a6', a7, a8, w]
              · simp [a1, a2, a3, a4, a5, a6', a7, w]
            · have n2 : ¬ (0 ≤ x.since ∧ x.since ≤ cyc ∧ 0 ≤ x.cycles ∧ x.since + x.cycles ≤ cyc) := by omega
              simp only [if_pos n2]
              have a6' : cyc < x.since + x.cycles := by omega
              simp [a1, a2, a3, a4, a5, a6', w]
          · have a5' : (decide (x.cycles ≥ 0) && decide (x.cycles ≤ cyc)) = false := by rw [← Bool.not_eq_true, Bool.and_eq_true]; simpa using a5
            have a6 : ¬ (0 ≤ x.since ∧ x.since ≤ cyc ∧ 0 ≤ x.cycles ∧ x.since + x.cycles ≤ cyc) := by omega
            simp only [if_pos a6]
            simp [a1, a2, a3, a4, a5']
        · have a4' : (decide (x.since ≥ 0) && decide (x.since ≤ cyc)) = false := by rw [← Bool.not_eq_true, Bool.and_eq_true]; simpa using a4
          have a6 : ¬ (0 ≤ x.since ∧ x.since ≤ cyc ∧ 0 ≤ x.cycles ∧ x.since + x.cycles ≤ cyc) := by omega
          simp only [if_pos a6]
          simp [a1, a2, a3, a4']
      · have a3' : (decide (x.faults ≥ 0) && decide (x.faults ≤ 4096)) = false := by rw [← Bool.not_eq_true, Bool.and_eq_true]; simpa using a3
        have n1 : ¬ (1 ≤ x.life ∧ x.life ≤ 1048576 ∧ 0 ≤ x.used ∧ x.used ≤ 1048576 ∧ 0 ≤ x.faults ∧ x.faults ≤ 4096) := by omega
        simp only [if_pos n1]
        simp [a1, a2, a3']
    · have a2' : (decide (x.used ≥ 0) && decide (x.used ≤ 1048576)) = false := by rw [← Bool.not_eq_true, Bool.and_eq_true]; simpa using a2
      have n1 : ¬ (1 ≤ x.life ∧ x.life ≤ 1048576 ∧ 0 ≤ x.used ∧ x.used ≤ 1048576 ∧ 0 ≤ x.faults ∧ x.faults ≤ 4096) := by omega
      simp only [if_pos n1]
      simp [a1, a2']
  · have a1' : (decide (x.life ≥ 1) && decide (x.life ≤ 1048576)) = false := by rw [← Bool.not_eq_true, Bool.and_eq_true]; simpa using a1
    have n1 : ¬ (1 ≤ x.life ∧ x.life ≤ 1048576 ∧ 0 ≤ x.used ∧ x.used ≤ 1048576 ∧ 0 ≤ x.faults ∧ x.faults ≤ 4096) := by omega
    simp only [if_pos n1]
    simp [a1']
theorem jitem_code (x : Item) (cyc : Int) (k : Option Int) (h0 : 0 ≤ cyc) (h1 : cyc ≤ 1048576) :
    ((journal_in x.life 1 1048576).bind fun r3 =>
            (if (!r3) = true then some true else (journal_in x.used 0 1048576).bind fun r4 =>
            some (!r4)).bind fun c2 =>
            (if c2 = true then some true else (journal_in x.faults 0 4096).bind fun r5 =>
            some (!r5)).bind fun c3 =>
            if c3 = true then
            some 2
          else
            (journal_in x.since 0 cyc).bind fun r6 =>
              (if (!r6) = true then some true else (journal_in x.cycles 0 (IntKind.wrap .i64 (cyc - x.since))).bind fun r7 =>
              some (!r7)).bind fun c4 =>
              if c4 = true then
              some 2
            else
              if (x.faulty && (x.faults == 0)) = true then
                some 14
              else k) = if code cyc x ≠ 0 then some (code cyc x) else k := by
  unfold code journal_in
  by_cases a1 : 1 ≤ x.life ∧ x.life ≤ 1048576
  · by_cases a2 : 0 ≤ x.used ∧ x.used ≤ 1048576
    · by_cases a3 : 0 ≤ x.faults ∧ x.faults ≤ 4096
      · have n1 : ¬ ¬ (1 ≤ x.life ∧ x.life ≤ 1048576 ∧ 0 ≤ x.used ∧ x.used ≤ 1048576 ∧ 0 ≤ x.faults ∧ x.faults ≤ 4096) := by omega
        simp only [if_neg n1]
        by_cases a4 : 0 ≤ x.since ∧ x.since ≤ cyc
        · have w : IntKind.wrap .i64 (cyc - x.since) = cyc - x.since := wrap64 (by omega) (by omega)
          by_cases a5 : 0 ≤ x.cycles ∧ x.cycles ≤ cyc - x.since
          · have n2 : ¬ ¬ (0 ≤ x.since ∧ x.since ≤ cyc ∧ 0 ≤ x.cycles ∧ x.since + x.cycles ≤ cyc) := by omega
            simp only [if_neg n2]
            by_cases a7 : x.faulty = true
            · by_cases a8 : x.faults = 0 <;> simp [a1, a2, a3, a4, a5, a7, a8, w]
            · simp [a1, a2, a3, a4, a5, a7, w]
          · have a5' : (decide (x.cycles ≥ 0) && decide (x.cycles ≤ cyc - x.since)) = false := by rw [← Bool.not_eq_true, Bool.and_eq_true]; simpa using a5
            have a6 : ¬ (0 ≤ x.since ∧ x.since ≤ cyc ∧ 0 ≤ x.cycles ∧ x.since + x.cycles ≤ cyc) := by omega
            simp only [if_pos a6]
            simp [a1, a2, a3, a4, w, a5']
        · have a4' : (decide (x.since ≥ 0) && decide (x.since ≤ cyc)) = false := by rw [← Bool.not_eq_true, Bool.and_eq_true]; simpa using a4
          have a6 : ¬ (0 ≤ x.since ∧ x.since ≤ cyc ∧ 0 ≤ x.cycles ∧ x.since + x.cycles ≤ cyc) := by omega
          simp only [if_pos a6]
          simp [a1, a2, a3, a4']
      · have a3' : (decide (x.faults ≥ 0) && decide (x.faults ≤ 4096)) = false := by rw [← Bool.not_eq_true, Bool.and_eq_true]; simpa using a3
        have n1 : ¬ (1 ≤ x.life ∧ x.life ≤ 1048576 ∧ 0 ≤ x.used ∧ x.used ≤ 1048576 ∧ 0 ≤ x.faults ∧ x.faults ≤ 4096) := by omega
        simp only [if_pos n1]
        simp [a1, a2, a3']
    · have a2' : (decide (x.used ≥ 0) && decide (x.used ≤ 1048576)) = false := by rw [← Bool.not_eq_true, Bool.and_eq_true]; simpa using a2
      have n1 : ¬ (1 ≤ x.life ∧ x.life ≤ 1048576 ∧ 0 ≤ x.used ∧ x.used ≤ 1048576 ∧ 0 ≤ x.faults ∧ x.faults ≤ 4096) := by omega
      simp only [if_pos n1]
      simp [a1, a2']
  · have a1' : (decide (x.life ≥ 1) && decide (x.life ≤ 1048576)) = false := by rw [← Bool.not_eq_true, Bool.and_eq_true]; simpa using a1
    have n1 : ¬ (1 ≤ x.life ∧ x.life ≤ 1048576 ∧ 0 ≤ x.used ∧ x.used ≤ 1048576 ∧ 0 ≤ x.faults ∧ x.faults ≤ 4096) := by omega
    simp only [if_pos n1]
    simp [a1']
def Short (l : List Item) : Prop := ∀ x ∈ l, x.name.length ≤ 60
theorem rcheck_loop (m : Machine) (hc : 0 ≤ m.cycles ∧ m.cycles ≤ 1048576) (hb : m.items.length ≤ 256) (hs : Short m.items) : ∀ (r pre : List Item), m.items = pre ++ r → ref58_Check_loop1 m (some 0) (r.length + 1) (pre.length : Int) = some (chk m.cycles pre.getLast? r)
  | [], pre, e => by
    unfold ref58_Check_loop1
    rw [e, ge_end]
    rfl
  | x :: r, pre, e => by
    have hx : x.name.length ≤ 60 := hs x (by rw [e]; simp)
    have hl : (pre ++ x :: r).length ≤ 256 := by rw [← e]; exact hb
    have hp : pre.length ≤ 4611686018427387904 := by simp at hl; omega
    have ih := rcheck_loop m hc hb hs r (pre ++ [x]) (by rw [e, mid_cons])
    have hlast : (pre ++ [x]).getLast? = some x := by simp
    rw [hlast] at ih
    have hpv := prev_eq (pre := pre) (r := r) (x := x) hp
    unfold ref58_Check_loop1
    rw [e, lt_mid, if_pos rfl, at?_mid, Option.bind_some, rword_eq _ (by omega), Option.bind_some]
    unfold chk
    by_cases h1 : word x.name = 0
    · have b1 : (word x.name != 0) = false := by simp [h1]
      have n1 : ¬ word x.name ≠ 0 := by simp [h1]
      simp only [b1, Bool.false_eq_true, if_false, if_neg n1, Option.bind_some]
      rw [hpv, Option.bind_some]
      cases h2 : over pre.getLast? x
      · simp only [Bool.false_eq_true, if_false]
        rw [item_code x m.cycles hc.1 hc.2, Option.bind_some, wrap_mid (x := x) (r := r) (by omega)]
        by_cases h3 : code m.cycles x = 0
        · have b3 : (code m.cycles x != 0) = false := by simp [h3]
          have n3 : ¬ code m.cycles x ≠ 0 := by simp [h3]
          simp only [b3, Bool.false_eq_true, if_false, if_neg n3]
          exact ih
        · have b3 : (code m.cycles x != 0) = true := by simpa using h3
          simp only [b3, if_true, if_pos h3]
      · simp only [if_true]
    · have b1 : (word x.name != 0) = true := by simpa using h1
      simp only [b1, if_true, if_pos h1]
theorem jcheck_loop (m : Machine) (hc : 0 ≤ m.cycles ∧ m.cycles ≤ 1048576) (hb : m.items.length ≤ 256) (hs : Short m.items) : ∀ (r pre : List Item), m.items = pre ++ r → journal_Check_loop1 m (some 0) (r.length + 1) (pre.length : Int) = some (chk m.cycles pre.getLast? r)
  | [], pre, e => by
    unfold journal_Check_loop1
    rw [e, ge_end]
    rfl
  | x :: r, pre, e => by
    have hx : x.name.length ≤ 60 := hs x (by rw [e]; simp)
    have hl : (pre ++ x :: r).length ≤ 256 := by rw [← e]; exact hb
    have hp : pre.length ≤ 4611686018427387904 := by simp at hl; omega
    have ih := jcheck_loop m hc hb hs r (pre ++ [x]) (by rw [e, mid_cons])
    have hlast : (pre ++ [x]).getLast? = some x := by simp
    rw [hlast] at ih
    have hpv := prev_eq (pre := pre) (r := r) (x := x) hp
    unfold journal_Check_loop1
    rw [e, lt_mid, if_pos rfl, at?_mid, Option.bind_some, lword_eq _ (by omega), Option.bind_some]
    unfold chk
    by_cases h1 : word x.name = 0
    · have b1 : (word x.name != 0) = false := by simp [h1]
      have n1 : ¬ word x.name ≠ 0 := by simp [h1]
      simp only [b1, Bool.false_eq_true, if_false, if_neg n1, Option.bind_some]
      rw [hpv, Option.bind_some]
      cases h2 : over pre.getLast? x
      · simp only [Bool.false_eq_true, if_false]
        rw [jitem_code x m.cycles _ hc.1 hc.2, wrap_mid (x := x) (r := r) (by omega)]
        by_cases h3 : code m.cycles x = 0
        · have b3 : (code m.cycles x != 0) = false := by simp [h3]
          have n3 : ¬ code m.cycles x ≠ 0 := by simp [h3]
          simp only [b3, Bool.false_eq_true, if_false, if_neg n3]
          exact ih
        · have b3 : (code m.cycles x != 0) = true := by simpa using h3
          simp only [b3, if_true, if_pos h3]
      · simp only [if_true]
    · have b1 : (word x.name != 0) = true := by simpa using h1
      simp only [b1, if_true, if_pos h1]
def IOk (cyc : Int) (x : Item) : Prop := word x.name = 0 ∧ 1 ≤ x.life ∧ x.life ≤ 1048576 ∧ 0 ≤ x.used ∧ x.used ≤ 1048576 ∧ 0 ≤ x.faults ∧ x.faults ≤ 4096 ∧ 0 ≤ x.since ∧ 0 ≤ x.cycles ∧ x.since + x.cycles ≤ cyc ∧ (x.faulty = true → x.faults ≠ 0)
structure Good (m : Machine) : Prop where
  c0 : 0 ≤ m.cycles
  c1 : m.cycles ≤ 1048576
  len : m.items.length ≤ 256
  ok : ∀ x ∈ m.items, IOk m.cycles x
  srt : m.items.Pairwise fun x y => ltB x.name y.name
theorem code_zero {cyc : Int} {x : Item} : word x.name = 0 ∧ code cyc x = 0 ↔ IOk cyc x := by
  unfold code IOk
  constructor
  · rintro ⟨h0, h⟩
    split at h
    · cases h
    · split at h
      · cases h
      · split at h
        · cases h
        · rename_i a b c
          exact ⟨h0, by omega, by omega, by omega, by omega, by omega, by omega, by omega, by omega, by omega, fun q1 q2 => c ⟨q1, q2⟩⟩
  · rintro ⟨h0, h1, h2, h3, h4, h5, h6, h7, h8, h9, h10⟩
    refine ⟨h0, ?_⟩
    rw [if_neg (by omega), if_neg (by omega), if_neg (fun q => h10 q.1 q.2)]
theorem chk_zero {cyc : Int} : ∀ {l : List Item} {prev : Option Item}, chk cyc prev l = 0 ↔ (∀ x ∈ l, IOk cyc x) ∧ (l.Pairwise fun x y => ltB x.name y.name) ∧ ∀ y, prev = some y → ∀ x ∈ l, ltB y.name x.name
  | [], prev => by simp [chk]
  | x :: r, prev => by
    unfold chk
    have ih := chk_zero (cyc := cyc) (l := r) (prev := some x)
    by_cases h1 : word x.name = 0
    · rw [if_neg (by simp [h1])]
      cases h2 : over prev x
      · rw [if_neg (by simp)]
        have hov : ∀ y, prev = some y → ltB y.name x.name := fun y e => by
          subst e
          simp only [over, Bool.or_eq_false_iff, beq_eq_false_iff_ne, ne_eq] at h2
          exact ltB_tri h2.1 h2.2
        by_cases h3 : code cyc x = 0
        · rw [if_neg (by simp [h3]), ih]
          have hx := code_zero.1 ⟨h1, h3⟩
          constructor
          · rintro ⟨a, b, c⟩
            refine ⟨fun y hy => ?_, List.pairwise_cons.2 ⟨fun y hy => c x rfl y hy, b⟩, fun y e z hz => ?_⟩
            · rcases List.mem_cons.1 hy with rfl | hy
              · exact hx
              · exact a y hy
            · rcases List.mem_cons.1 hz with rfl | hz
              · exact hov y e
              · exact ltB_trans (hov y e) (c x rfl z hz)
          · rintro ⟨a, b, c⟩
            exact ⟨fun y hy => a y (List.mem_cons_of_mem _ hy), (List.pairwise_cons.1 b).2, fun y e z hz => by cases e; exact (List.pairwise_cons.1 b).1 z hz⟩
        · rw [if_pos h3]
          constructor
          · intro q; exact absurd q h3
          · rintro ⟨a, _⟩
            exact (code_zero.2 (a x (List.mem_cons_self ..))).2
      · rw [if_pos rfl]
        constructor
        · intro q; cases q
        · rintro ⟨_, _, c⟩
          cases prev with
          | none => cases h2
          | some y =>
            have := c y rfl x (List.mem_cons_self ..)
            simp only [over, Bool.or_eq_true, beq_iff_eq] at h2
            rcases h2 with q | q
            · rw [ltB_asymm this] at q; cases q
            · exact absurd q.symm (ltB_ne this)
    · rw [if_pos h1]
      constructor
      · intro q; exact absurd q h1
      · rintro ⟨a, _⟩
        exact absurd (a x (List.mem_cons_self ..)).1 h1
theorem check_eq (m : Machine) (hs : Short m.items) : ∃ c, journal_Check m = some c ∧ ref58_Check m = some c ∧ (c = 0 ↔ Good m) := by
  unfold journal_Check ref58_Check journal_in ref58_in
  simp only [Option.bind_some]
  by_cases hc : 0 ≤ m.cycles ∧ m.cycles ≤ 1048576
  · have hc' : (decide (m.cycles ≥ 0) && decide (m.cycles ≤ 1048576)) = true := by simp [hc]
    rw [hc']
    simp only [Bool.not_true, Bool.false_eq_true, if_false]
    by_cases hl : m.items.length ≤ 256
    · have hl' : decide ((m.items.length : Int) > 256) = false := decide_eq_false (by omega)
      rw [hl']
      simp only [Bool.false_eq_true, if_false, joinK]
      rw [fuel0]
      have e1 := jcheck_loop m hc hl hs m.items [] rfl
      have e2 := rcheck_loop m hc hl hs m.items [] rfl
      simp only [List.length_nil, Int.natCast_zero] at e1 e2
      refine ⟨_, e1, e2, ?_⟩
      rw [chk_zero]
      exact ⟨fun ⟨a, b, _⟩ => ⟨hc.1, hc.2, hl, a, b⟩, fun g => ⟨g.ok, g.srt, fun y e => by cases e⟩⟩
    · have hl' : decide ((m.items.length : Int) > 256) = true := decide_eq_true (by omega)
      rw [hl']
      exact ⟨5, rfl, rfl, by simp; intro g; have := g.len; omega⟩
  · have hc' : (decide (m.cycles ≥ 0) && decide (m.cycles ≤ 1048576)) = false := by rw [← Bool.not_eq_true, Bool.and_eq_true]; simpa using hc
    rw [hc']
    exact ⟨2, rfl, rfl, by simp; intro g; exact hc ⟨g.c0, g.c1⟩⟩
end Go.Proofs.YtpocodofhkaddaaGreatDoor.W
