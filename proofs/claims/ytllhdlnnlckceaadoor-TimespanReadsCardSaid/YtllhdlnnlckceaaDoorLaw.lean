/- The plain laws: what the walks compute answers true. No program in sight. -/
import Derived.Test.YtllhdlnnlckceaaDoorPlain
set_option linter.unusedVariables false
set_option linter.unusedSimpArgs false
namespace Go.Proofs.YtllhdlnnlckceaaDoor.W
open Go Go.RowKit
theorem awake_true : law03_awake = some true := by kernel_rfl
theorem wrap64 {x : Int} (h : -9223372036854775808 ≤ x) (k : x ≤ 9223372036854775807) : IntKind.wrap .i64 x = x := by
  unfold IntKind.wrap
  simp [IntKind.bits, IntKind.signed]
  split <;> omega
structure Ok (a : Span) : Prop where
  l0 : 0 ≤ a.low
  l1 : a.low ≤ 1000000
  h0 : 0 ≤ a.high
  h1 : a.high ≤ 1000000
  lh : a.low ≤ a.high
instance (a : Span) : Decidable (Ok a) := decidable_of_iff (0 ≤ a.low ∧ a.low ≤ 1000000 ∧ 0 ≤ a.high ∧ a.high ≤ 1000000 ∧ a.low ≤ a.high) ⟨fun ⟨a, b, c, d, e⟩ => ⟨a, b, c, d, e⟩, fun ⟨a, b, c, d, e⟩ => ⟨a, b, c, d, e⟩⟩
theorem check_eq (a : Span) : timespan_Check a = ref03_Check a := rfl
theorem check_some (a : Span) : ∃ r, ref03_Check a = some r ∧ (r = 0 ↔ Ok a) := by
  unfold ref03_Check ref03_Time
  by_cases h1 : 0 ≤ a.low ∧ a.low ≤ 1000000
  · by_cases h2 : 0 ≤ a.high ∧ a.high ≤ 1000000
    · by_cases h3 : a.low > a.high
      · refine ⟨9, by simp [h1, h2, h3], by simp; intro h; have := h.lh; omega⟩
      · refine ⟨0, by simp [h1, h2, h3], by simp; exact ⟨h1.1, h1.2, h2.1, h2.2, by omega⟩⟩
    · refine ⟨2, ?_, by simp; intro h; exact h2 ⟨h.h0, h.h1⟩⟩
      have h2' : (decide (a.high ≥ 0) && decide (a.high ≤ 1000000)) = false := by
        rw [← Bool.not_eq_true, Bool.and_eq_true]; simpa using h2
      simp [h1, h2']
  · refine ⟨2, ?_, by simp; intro h; exact h1 ⟨h.l0, h.l1⟩⟩
    have h1' : (decide (a.low ≥ 0) && decide (a.low ≤ 1000000)) = false := by
      rw [← Bool.not_eq_true, Bool.and_eq_true]; simpa using h1
    simp [h1']
theorem check_ok {a : Span} (h : Ok a) : ref03_Check a = some 0 := by
  obtain ⟨r, h1, h2⟩ := check_some a
  rw [h1, h2.2 h]
theorem wrap0 : IntKind.wrap .i64 (0 + 1) = 1 := by kernel_rfl
theorem wrap2 : IntKind.wrap .i64 2 = 2 := by kernel_rfl
theorem ite_tot {α : Type} {c : Prop} [Decidable c] {x y : Option α} (h : ∃ r, x = some r) (k : ∃ r, y = some r) : ∃ r, (if c then x else y) = some r := by
  split
  · exact h
  · exact k
theorem wrap1 : IntKind.wrap .i64 (1 + 1) = 2 := by kernel_rfl
theorem checks_two (a b : Span) : timespan_checks [a, b] = ref03_both a b := by
  obtain ⟨r, h1, _⟩ := check_some a
  obtain ⟨q, h2, _⟩ := check_some b
  unfold timespan_checks joinK ref03_both
  simp only [timespan_checks_loop1, List.length_cons, List.length_nil, wrap0, wrap1, check_eq]
  simp [at?, h1, h2, wrap0, wrap1]
  by_cases hr : r = 0
  · simp only [hr, if_true]
    simp [timespan_checks_loop1, at?, check_eq, h2, wrap1, wrap2]
    by_cases hq : q = 0 <;> simp [hq]
  · simp [hr]
theorem both_some (a b : Span) : ∃ r, ref03_both a b = some r ∧ (r = 0 ↔ (Ok a ∧ Ok b)) := by
  obtain ⟨r, h1, h1'⟩ := check_some a
  obtain ⟨q, h2, h2'⟩ := check_some b
  unfold ref03_both
  rw [h1, h2]
  by_cases hr : r = 0
  · exact ⟨q, by simp [hr], by rw [h2']; simp [h1'.1 hr]⟩
  · exact ⟨r, by simp [hr], by rw [h1']; exact ⟨fun h => absurd (h1'.2 h) hr, fun h => h.1⟩⟩
theorem both_ok {a b : Span} (ha : Ok a) (hb : Ok b) : ref03_both a b = some 0 := by
  obtain ⟨r, h1, h2⟩ := both_some a b
  rw [h1, h2.2 ⟨ha, hb⟩]
theorem of_eq (x y : Int) : timespan_Of x y = ref03_Of x y := rfl
theorem later_eq (a b : Span) : timespan_Later a b = ref03_Later a b := by
  obtain ⟨r, h1, h2⟩ := both_some a b
  unfold timespan_Later ref03_Later ref03_Last joinK
  rw [checks_two, h1]
  by_cases hr : r = 0
  · obtain ⟨ha, hb⟩ := h2.1 hr
    have := ha.h1; have := hb.h1
    have h : ¬ (if b.high > a.high then b.high else a.high) > 1000000 := by split <;> omega
    simp only [hr, bne_self_eq_false, Bool.false_eq_true, if_false, Option.bind_some, h, decide_false]
  · simp [hr]
theorem earlier_eq (a b : Span) : timespan_Earlier a b = ref03_Earlier a b := by
  obtain ⟨r, h1, h2⟩ := both_some a b
  unfold timespan_Earlier ref03_Earlier joinK
  rw [checks_two, h1]
  by_cases hr : r = 0
  · obtain ⟨ha, hb⟩ := h2.1 hr
    have := ha.h1; have := hb.h1
    have h : ¬ (if b.high < a.high then b.high else a.high) > 1000000 := by split <;> omega
    simp only [hr, bne_self_eq_false, Bool.false_eq_true, if_false, Option.bind_some, h, decide_false]
  · simp [hr]
theorem hull_eq (a b : Span) : timespan_Hull a b = ref03_Hull a b := by
  unfold timespan_Hull ref03_Hull
  rw [checks_two]
theorem meet_eq (a b : Span) : timespan_Meet a b = ref03_Meet a b := by
  unfold timespan_Meet ref03_Meet
  rw [checks_two]
theorem compare_eq (a b : Span) : timespan_Compare a b = ref03_Compare a b := by
  unfold timespan_Compare ref03_Compare
  rw [checks_two]
theorem within_eq (a b : Span) : timespan_Within a b = ref03_Within a b := by
  obtain ⟨r, h1, h2⟩ := both_some a b
  unfold timespan_Within ref03_Within
  rw [checks_two, h1]
  by_cases hr : r = 0
  · obtain ⟨ha, hb⟩ := h2.1 hr
    have h1 := ha.lh; have h2 := hb.lh
    simp only [hr, ref03_Has, Option.bind_some]
    by_cases k1 : a.low ≥ b.low
    · by_cases k2 : a.high ≤ b.high
      · have k3 : a.low ≤ b.high := by omega
        have k4 : a.high ≥ b.low := by omega
        simp [k1, k2, k3, k4]
      · by_cases k3 : a.low ≤ b.high <;> simp [k1, k2, k3]
    · simp [k1]
  · simp [hr]
theorem add_eq (a b : Span) : timespan_Add a b = ref03_Add a b := by
  obtain ⟨r, h1, h2⟩ := both_some a b
  unfold timespan_Add ref03_Add ref03_Plus ref03_limited joinK
  rw [checks_two, h1]
  by_cases hr : r = 0
  · simp only [hr, Option.bind_some]
    by_cases k : IntKind.wrap .i64 (a.high + b.high) > 1000000 <;> simp [k]
  · simp [hr]
theorem scale_eq (a : Span) (k : Int) : timespan_Scale a k = ref03_Scale a k := by
  obtain ⟨r, h1, h2⟩ := check_some a
  unfold timespan_Scale ref03_Scale ref03_limited
  rw [check_eq, h1]
  by_cases hr : r = 0
  · simp only [hr, Option.bind_some]
    by_cases k1 : (decide (k < 0) || decide (k > 1048576)) = true
    · simp [k1]
    · by_cases k2 : IntKind.wrap .i64 (k * a.high) > 1000000 <;> simp [k1, k2]
  · simp [hr]
theorem later_tot (a b : Span) : ∃ r, ref03_Later a b = some r := by
  obtain ⟨r, h1, _⟩ := both_some a b
  unfold ref03_Later ref03_Last
  rw [h1]
  by_cases hr : r = 0 <;> simp [hr]
theorem earlier_tot (a b : Span) : ∃ r, ref03_Earlier a b = some r := by
  obtain ⟨r, h1, _⟩ := both_some a b
  unfold ref03_Earlier
  rw [h1]
  by_cases hr : r = 0 <;> simp [hr]
theorem hull_tot (a b : Span) : ∃ r, ref03_Hull a b = some r := by
  obtain ⟨r, h1, _⟩ := both_some a b
  unfold ref03_Hull
  rw [h1]
  by_cases hr : r = 0 <;> simp [hr]
theorem meet_tot (a b : Span) : ∃ r, ref03_Meet a b = some r := by
  obtain ⟨r, h1, _⟩ := both_some a b
  unfold ref03_Meet
  rw [h1]
  simp only [Option.bind_some]
  by_cases hr : r = 0
  · simp only [hr, bne_self_eq_false, Bool.false_eq_true, if_false]
    exact ite_tot ⟨_, rfl⟩ ⟨_, rfl⟩
  · simp [hr]
theorem within_tot (a b : Span) : ∃ r, ref03_Within a b = some r := by
  obtain ⟨r, h1, _⟩ := both_some a b
  unfold ref03_Within ref03_Has
  rw [h1]
  simp only [Option.bind_some]
  by_cases hr : r = 0
  · simp only [hr, bne_self_eq_false, Bool.false_eq_true, if_false]
    split <;> exact ⟨_, rfl⟩
  · simp [hr]
theorem compare_tot (a b : Span) : ∃ r, ref03_Compare a b = some r := by
  obtain ⟨r, h1, _⟩ := both_some a b
  unfold ref03_Compare
  rw [h1]
  simp only [Option.bind_some]
  by_cases hr : r = 0
  · simp only [hr, bne_self_eq_false, Bool.false_eq_true, if_false]
    split
    · exact ⟨_, rfl⟩
    · split <;> exact ⟨_, rfl⟩
  · simp [hr]
theorem add_tot (a b : Span) : ∃ r, ref03_Add a b = some r := by
  obtain ⟨r, h1, _⟩ := both_some a b
  unfold ref03_Add ref03_Plus ref03_limited
  rw [h1]
  simp only [Option.bind_some]
  by_cases hr : r = 0
  · simp only [hr, bne_self_eq_false, Bool.false_eq_true, if_false]
    split <;> exact ⟨_, rfl⟩
  · simp [hr]
theorem scale_tot (a : Span) (k : Int) : ∃ r, ref03_Scale a k = some r := by
  obtain ⟨r, h1, _⟩ := check_some a
  unfold ref03_Scale ref03_limited
  rw [h1]
  simp only [Option.bind_some]
  by_cases hr : r = 0
  · simp only [hr, bne_self_eq_false, Bool.false_eq_true, if_false]
    split
    · exact ⟨_, rfl⟩
    · split <;> exact ⟨_, rfl⟩
  · simp [hr]
theorem of_tot (x y : Int) : ∃ r, ref03_Of x y = some r := by
  obtain ⟨r, h1, _⟩ := check_some ⟨x, y⟩
  unfold ref03_Of
  rw [h1]
  by_cases hr : r = 0 <;> simp [hr]

theorem law_Orders (a b : Span) : law03_TimespanOrders a b = some true := by
  obtain ⟨r1, h1⟩ := later_tot a b
  obtain ⟨r2, h2⟩ := earlier_tot a b
  obtain ⟨r3, h3⟩ := hull_tot a b
  unfold law03_TimespanOrders
  rw [later_eq, earlier_eq, hull_eq, h1, h2, h3]
  simp [awake_true]
theorem law_Meets (a b : Span) : law03_TimespanMeets a b = some true := by
  obtain ⟨r1, h1⟩ := meet_tot a b
  obtain ⟨r2, h2⟩ := within_tot a b
  obtain ⟨r3, h3⟩ := compare_tot a b
  unfold law03_TimespanMeets
  rw [meet_eq, within_eq, compare_eq, h1, h2, h3]
  simp [awake_true]
theorem law_Adds (a b : Span) (k : Int) : law03_TimespanAdds a b k = some true := by
  obtain ⟨r1, h1⟩ := of_tot k b.high
  obtain ⟨r2, h2, _⟩ := check_some a
  obtain ⟨r3, h3⟩ := add_tot a b
  obtain ⟨r4, h4⟩ := scale_tot a k
  unfold law03_TimespanAdds
  rw [of_eq, check_eq, add_eq, scale_eq, h1, h2, h3, h4]
  simp [awake_true]
theorem at?_nat {α : Type} (l : List α) (i : Nat) : at? l (i : Int) = l[i]? := by
  unfold at?
  rw [if_pos (Int.natCast_nonneg i)]
  rfl
theorem wrapS {i : Nat} (h : i < 9223372036854775807) : IntKind.wrap .i64 ((i : Int) + 1) = ((i + 1 : Nat) : Int) := by
  rw [wrap64 (by omega) (by omega)]
  omega
/-- the first error of spans -/
def chk (k : Option Int) : List Span → Option Int
  | [] => k
  | x :: r => (ref03_Check x).bind fun e => if e = 0 then chk k r else some e
theorem checks_loop (l : List Span) (k : Option Int) (hl : l.length < 9223372036854775807) : ∀ (n i : Nat), i + n = l.length → timespan_checks_loop1 l k (n + 1) i = chk k (l.drop i)
  | 0, i, h => by
    have e : l.drop i = [] := List.drop_eq_nil_of_le (by omega)
    rw [e, timespan_checks_loop1]
    have : decide ((i : Int) < (l.length : Int)) = false := decide_eq_false (by omega)
    simp [this, chk]
    intro h2
    omega
  | n + 1, i, h => by
    have hi : i < l.length := by omega
    rw [List.drop_eq_getElem_cons hi, timespan_checks_loop1]
    have : decide ((i : Int) < (l.length : Int)) = true := decide_eq_true (by omega)
    rw [if_pos this, at?_nat, List.getElem?_eq_getElem hi, wrapS (by omega)]
    simp only [Option.bind_some, chk, check_eq]
    congr 1
    funext e
    by_cases he : e = 0
    · simp only [he, bne_self_eq_false, Bool.false_eq_true, if_false, if_true]
      exact checks_loop l k hl n (i + 1) (by omega)
    · simp [he]
def sumF (k : Int → Int → Option (Span × Int)) : List Span → Int → Int → Option (Span × Int)
  | [], s, h => k s h
  | x :: r, s, h => sumF k r (IntKind.wrap .i64 (s + x.low)) (IntKind.wrap .i64 (h + x.high))
theorem sum_loop (l : List Span) (k : Int → Int → Option (Span × Int)) (hl : l.length < 9223372036854775807) : ∀ (n i : Nat) (s h : Int), i + n = l.length → timespan_Sum_loop1 l k (n + 1) i s h = sumF k (l.drop i) s h
  | 0, i, s, h, e1 => by
    have e : l.drop i = [] := List.drop_eq_nil_of_le (by omega)
    rw [e, timespan_Sum_loop1]
    have : decide ((i : Int) < (l.length : Int)) = false := decide_eq_false (by omega)
    rw [if_neg (by rw [this]; decide)]
    rfl
  | n + 1, i, s, h, e1 => by
    have hi : i < l.length := by omega
    rw [List.drop_eq_getElem_cons hi, timespan_Sum_loop1]
    have : decide ((i : Int) < (l.length : Int)) = true := decide_eq_true (by omega)
    rw [if_pos this, at?_nat, List.getElem?_eq_getElem hi, wrapS (by omega)]
    simp only [Option.bind_some, sumF]
    exact sum_loop l k hl n (i + 1) _ _ (by omega)
def refF (k : Int → Int → Option (Span × Int)) : List Span → Int → Int → Option (Span × Int)
  | [], s, h => k s h
  | x :: r, s, h => (ref03_Check x).bind fun e => if e = 0 then refF k r (IntKind.wrap .i64 (s + x.low)) (IntKind.wrap .i64 (h + x.high)) else some (⟨0, 0⟩, e)
theorem ref_loop (l : List Span) (k : Int → Int → Option (Span × Int)) (hl : l.length < 9223372036854775807) : ∀ (n i : Nat) (s h : Int), i + n = l.length → ref03_Sum_loop1 l k (n + 1) i s h = refF k (l.drop i) s h
  | 0, i, s, h, e1 => by
    have e : l.drop i = [] := List.drop_eq_nil_of_le (by omega)
    rw [e, ref03_Sum_loop1]
    have : decide ((i : Int) < (l.length : Int)) = false := decide_eq_false (by omega)
    rw [if_neg (by rw [this]; decide)]
    rfl
  | n + 1, i, s, h, e1 => by
    have hi : i < l.length := by omega
    rw [List.drop_eq_getElem_cons hi, ref03_Sum_loop1]
    have : decide ((i : Int) < (l.length : Int)) = true := decide_eq_true (by omega)
    rw [if_pos this, at?_nat, List.getElem?_eq_getElem hi, wrapS (by omega)]
    simp only [Option.bind_some, refF, ref03_Plus]
    congr 1
    funext e
    by_cases he : e = 0
    · simp only [he, bne_self_eq_false, Bool.false_eq_true, if_false, if_true]
      exact ref_loop l k hl n (i + 1) _ _ (by omega)
    · simp [he]
theorem chk_sum (k : Int → Int → Option (Span × Int)) : ∀ (l : List Span) (s h : Int), (chk (some 0) l = some 0 ∧ refF k l s h = sumF k l s h) ∨ (∃ e, e ≠ 0 ∧ chk (some 0) l = some e ∧ refF k l s h = some (⟨0, 0⟩, e))
  | [], s, h => .inl ⟨rfl, rfl⟩
  | x :: r, s, h => by
    obtain ⟨e, h1, _⟩ := check_some x
    by_cases he : e = 0
    · subst he
      simp only [chk, refF, sumF, h1, Option.bind_some, if_true]
      exact chk_sum k r _ _
    · exact .inr ⟨e, he, by simp [chk, h1, he], by simp [refF, h1, he]⟩
theorem sum_eq (l : List Span) : ∃ r, timespan_Sum l = some r ∧ ref03_Sum l = some r := by
  unfold timespan_Sum ref03_Sum joinK
  by_cases hl : (l.length : Int) > 256
  · rw [if_pos (decide_eq_true hl), if_pos (decide_eq_true hl)]
    exact ⟨_, rfl, rfl⟩
  · rw [if_neg (by simpa using hl), if_neg (by simpa using hl)]
    have hb : l.length < 9223372036854775807 := by omega
    have e1 : timespan_checks l = chk (some 0) l := by
      unfold timespan_checks joinK
      have := checks_loop l (some 0) hb l.length 0 (by omega)
      simpa using this
    have hf : (Int.toNat ((l.length : Int) - 0) + 1) = l.length + 1 := by omega
    rw [e1, hf]
    have s1 := fun k => sum_loop l k hb l.length 0 0 0 (by omega)
    have s2 := fun k => ref_loop l k hb l.length 0 0 0 (by omega)
    simp only [List.drop_zero] at s1 s2
    have s1' := fun k => s1 k
    rw [show ((0 : Nat) : Int) = 0 from rfl] at s1' s2
    simp only [s1', s2]
    have kk : (fun (i4 : Int) (i5 : Int) => (ref03_limited (Span.mk i4 i5)).bind fun r3 => some (r3.1, r3.2)) = (fun (i4 : Int) (i5 : Int) => if (decide (i5 > 1000000)) = true then some ((Span.mk 0 0), (11 : Int)) else some ((Span.mk i4 i5), 0)) := by
      funext a b
      unfold ref03_limited
      by_cases h : b > 1000000 <;> simp [h]
    rw [kk]
    have tot : ∀ (l : List Span) (s h : Int), ∃ r, sumF (fun (i4 : Int) (i5 : Int) => if (decide (i5 > 1000000)) = true then some ((Span.mk 0 0), (11 : Int)) else some ((Span.mk i4 i5), 0)) l s h = some r := by
      intro l
      induction l with
      | nil => intro s h; exact ite_tot ⟨_, rfl⟩ ⟨_, rfl⟩
      | cons x r ih => intro s h; exact ih _ _
    rcases chk_sum (fun (i4 : Int) (i5 : Int) => if (decide (i5 > 1000000)) = true then some ((Span.mk 0 0), (11 : Int)) else some ((Span.mk i4 i5), 0)) l 0 0 with ⟨h1, h2⟩ | ⟨e, h0, h1, h2⟩
    · rw [h1, h2]
      obtain ⟨r, hr⟩ := tot l 0 0
      exact ⟨r, by simp only [Option.bind_some, bne_self_eq_false, Bool.false_eq_true, if_false]; exact hr, hr⟩
    · rw [h1, h2]
      exact ⟨_, by simp [h0], rfl⟩
theorem law_Sums (l : List Span) : law03_TimespanSums l = some true := by
  unfold law03_TimespanSums
  obtain ⟨r, h1, h2⟩ := sum_eq l
  rw [h1, h2]
  simp [awake_true]
def mx (x y : Int) : Int := if y > x then y else x
def mn (x y : Int) : Int := if y < x then y else x
theorem add_ok {a b : Span} (ha : Ok a) (hb : Ok b) (h : a.high + b.high ≤ 1000000) : ref03_Add a b = some (⟨a.low + b.low, a.high + b.high⟩, 0) := by
  have := ha.l0; have := ha.l1; have := ha.h0; have := ha.h1; have := hb.l0; have := hb.l1; have := hb.h0; have := hb.h1
  unfold ref03_Add ref03_Plus ref03_limited
  rw [both_ok ha hb]
  simp only [Option.bind_some, bne_self_eq_false, Bool.false_eq_true, if_false]
  rw [wrap64 (by omega) (by omega), wrap64 (by omega) (by omega)]
  rw [if_neg (by simp; omega)]
  rfl
theorem add_inv {a b : Span} {r : Span × Int} (h : ref03_Add a b = some r) (h0 : r.2 = 0) : Ok a ∧ Ok b ∧ a.high + b.high ≤ 1000000 := by
  obtain ⟨q, h1, h2⟩ := both_some a b
  unfold ref03_Add ref03_Plus ref03_limited at h
  rw [h1] at h
  by_cases hq : q = 0
  · obtain ⟨ha, hb⟩ := h2.1 hq
    have := ha.l0; have := ha.l1; have := ha.h0; have := ha.h1; have := hb.l0; have := hb.l1; have := hb.h0; have := hb.h1
    refine ⟨ha, hb, ?_⟩
    simp only [Option.bind_some, hq, bne_self_eq_false, Bool.false_eq_true, if_false] at h
    rw [wrap64 (by omega) (by omega), wrap64 (by omega) (by omega)] at h
    by_cases hc : a.high + b.high > 1000000
    · rw [if_pos (decide_eq_true hc)] at h
      cases h
      cases h0
    · omega
  · simp [hq] at h
    subst h
    exact absurd h0 hq
theorem later_ok {a b : Span} (ha : Ok a) (hb : Ok b) : ref03_Later a b = some (⟨mx a.low b.low, mx a.high b.high⟩, 0) := by
  unfold ref03_Later ref03_Last
  rw [both_ok ha hb]
  rfl
theorem earlier_ok {a b : Span} (ha : Ok a) (hb : Ok b) : ref03_Earlier a b = some (⟨mn a.low b.low, mn a.high b.high⟩, 0) := by
  unfold ref03_Earlier
  rw [both_ok ha hb]
  rfl
theorem hull_ok {a b : Span} (ha : Ok a) (hb : Ok b) : ref03_Hull a b = some (⟨mn a.low b.low, mx a.high b.high⟩, 0) := by
  unfold ref03_Hull
  rw [both_ok ha hb]
  rfl
theorem within_ok {a b : Span} (ha : Ok a) (hb : Ok b) : timespan_Within a b = some (decide (a.low ≥ b.low) && decide (a.high ≤ b.high), 0) := by
  unfold timespan_Within
  rw [checks_two, both_ok ha hb]
  rfl
theorem meet_ok {a b : Span} (ha : Ok a) (hb : Ok b) : ref03_Meet a b = if mx a.low b.low > mn a.high b.high then some (⟨0, 0⟩, false, 0) else some (⟨mx a.low b.low, mn a.high b.high⟩, true, 0) := by
  unfold ref03_Meet
  rw [both_ok ha hb]
  simp only [Option.bind_some, bne_self_eq_false, Bool.false_eq_true, if_false, decide_eq_true_eq]
  rfl
theorem compare_ok {a b : Span} (ha : Ok a) (hb : Ok b) : ref03_Compare a b = some (if a.high < b.low then -1 else if a.low > b.high then 1 else 0, 0) := by
  unfold ref03_Compare
  rw [both_ok ha hb]
  simp only [Option.bind_some, bne_self_eq_false, Bool.false_eq_true, if_false, decide_eq_true_eq]
  split
  · rfl
  · split <;> rfl
theorem mx_ok {a b : Span} (ha : Ok a) (hb : Ok b) : Ok ⟨mx a.low b.low, mx a.high b.high⟩ := by
  have := ha.l0; have := ha.l1; have := ha.h0; have := ha.h1; have := hb.l0; have := hb.l1; have := hb.h0; have := hb.h1; have := ha.lh; have := hb.lh
  refine ⟨?_, ?_, ?_, ?_, ?_⟩ <;> simp only [mx] <;> (repeat' split) <;> omega
theorem mn_ok {a b : Span} (ha : Ok a) (hb : Ok b) : Ok ⟨mn a.low b.low, mn a.high b.high⟩ := by
  have := ha.l0; have := ha.l1; have := ha.h0; have := ha.h1; have := hb.l0; have := hb.l1; have := hb.h0; have := hb.h1; have := ha.lh; have := hb.lh
  refine ⟨?_, ?_, ?_, ?_, ?_⟩ <;> simp only [mn] <;> (repeat' split) <;> omega
theorem hull_Ok {a b : Span} (ha : Ok a) (hb : Ok b) : Ok ⟨mn a.low b.low, mx a.high b.high⟩ := by
  have := ha.l0; have := ha.l1; have := ha.h0; have := ha.h1; have := hb.l0; have := hb.l1; have := hb.h0; have := hb.h1; have := ha.lh; have := hb.lh
  refine ⟨?_, ?_, ?_, ?_, ?_⟩ <;> simp only [mn, mx] <;> (repeat' split) <;> omega
theorem right_tot (a b : Span) : ∃ r, ref03_Add a b = some r ∧ law03_right a b = some (r.2 == 0) := by
  obtain ⟨r, h⟩ := add_tot a b
  exact ⟨r, h, by unfold law03_right; rw [h]; rfl⟩
theorem w000 : IntKind.wrap .i64 (0 + 0) = 0 := by kernel_rfl
theorem wz : IntKind.wrap .i64 0 = 0 := by kernel_rfl
theorem law_Agrees (a b : Span) : law03_TimespanAgrees a b = some true := by
  obtain ⟨r, h1, h2⟩ := right_tot a b
  unfold law03_TimespanAgrees
  rw [h2]
  by_cases h0 : r.2 = 0
  · obtain ⟨ha, hb, hs⟩ := add_inv h1 h0
    have e1 := add_ok ha hb hs
    have hl := mx_ok ha hb
    have he := mn_ok ha hb
    have hh := hull_Ok ha hb
    have a1 := ha.l0; have a2 := ha.l1; have a3 := ha.h0; have a4 := ha.h1; have a5 := hb.l0; have a6 := hb.l1; have a7 := hb.h0; have a8 := hb.h1; have a9 := ha.lh; have a10 := hb.lh
    have e2 := add_ok he hl (by show mn a.high b.high + mx a.high b.high ≤ 1000000; simp only [mn, mx]; (repeat' split) <;> omega)
    have c1 : mn a.low b.low + mx a.low b.low = a.low + b.low := by simp only [mn, mx]; (repeat' split) <;> omega
    have c2 : mn a.high b.high + mx a.high b.high = a.high + b.high := by simp only [mn, mx]; (repeat' split) <;> omega
    simp only [c1, c2] at e2
    have wa := within_ok ha hh
    have wb := within_ok hb hh
    have wa' : (decide (a.low ≥ mn a.low b.low) && decide (a.high ≤ mx a.high b.high)) = true := by
      rw [Bool.and_eq_true, decide_eq_true_iff, decide_eq_true_iff]; simp only [mn, mx]; constructor <;> split <;> omega
    have wb' : (decide (b.low ≥ mn a.low b.low) && decide (b.high ≤ mx a.high b.high)) = true := by
      rw [Bool.and_eq_true, decide_eq_true_iff, decide_eq_true_iff]; simp only [mn, mx]; constructor <;> split <;> omega
    simp only [wa'] at wa
    simp only [wb'] at wb
    simp only [h0, beq_self_eq_true, Bool.not_true, Bool.false_eq_true, if_false, Option.bind_some, add_eq, later_eq, earlier_eq, hull_eq, meet_eq, compare_eq, e1, later_ok ha hb, earlier_ok ha hb, e2, hull_ok ha hb, w000, wz, bne_self_eq_false, Bool.or_false]
    simp only [joinK, law03_TimespanAgrees_loop1, List.length_cons, List.length_nil, wrap0, wrap1, meet_ok ha hb, compare_ok ha hb]
    have at0 : at? [a, b] (0 : Int) = some a := rfl
    have at1 : at? [a, b] (1 : Int) = some b := rfl
    have hn : (Int.toNat (((0 + 1 + 1 : Nat) : Int) - 0) + 1) = 3 := by decide
    simp [hn, law03_TimespanAgrees_loop1, at0, at1, wa, wb, wrap0, wrap1, wrap2]
    by_cases hm : mn a.high b.high < mx a.low b.low
    · rw [if_pos hm]
      simp only [Option.bind_some]
      by_cases k1 : a.high < b.low
      · simp [k1, wz, awake_true]
      · have k2 : b.high < a.low := by
          simp only [mn, mx] at hm
          split at hm <;> split at hm <;> omega
        simp [k1, k2, wz, awake_true]
    · rw [if_neg hm]
      have k1 : ¬ a.high < b.low := by
        intro k; apply hm; simp only [mn, mx]; split <;> split <;> omega
      have k2 : ¬ b.high < a.low := by
        intro k; apply hm; simp only [mn, mx]; split <;> split <;> omega
      have hM : Ok ⟨mx a.low b.low, mn a.high b.high⟩ := by
        refine ⟨?_, ?_, ?_, ?_, ?_⟩ <;> simp only [mx, mn] at hm ⊢ <;> (repeat' split) <;> (try split at hm) <;> (try split at hm) <;> omega
      have m1 := within_ok hM ha
      have m2 := within_ok hM hb
      have m1' : (decide (mx a.low b.low ≥ a.low) && decide (mn a.high b.high ≤ a.high)) = true := by
        rw [Bool.and_eq_true, decide_eq_true_iff, decide_eq_true_iff]; simp only [mn, mx]; constructor <;> split <;> omega
      have m2' : (decide (mx a.low b.low ≥ b.low) && decide (mn a.high b.high ≤ b.high)) = true := by
        rw [Bool.and_eq_true, decide_eq_true_iff, decide_eq_true_iff]; simp only [mn, mx]; constructor <;> split <;> omega
      simp only [m1'] at m1
      simp only [m2'] at m2
      simp [k1, k2, wz, m1, m2, awake_true]
  · have : (r.2 == 0) = false := by simpa using h0
    simp [this, awake_true]
theorem law_Combines (a b : Span) (y : B3) (g : (0 ≤ y.a0 ∧ y.a0 ≤ 65535) ∧ (0 ≤ y.a1 ∧ y.a1 ≤ 65535) ∧ (0 ≤ y.a2 ∧ y.a2 ≤ 65535)) : law03_TimespanCombines a b y = some true := by
  obtain ⟨r, h1, h2⟩ := right_tot a b
  unfold law03_TimespanCombines
  rw [h2]
  by_cases h0 : r.2 = 0
  · obtain ⟨ha, hb, hs⟩ := add_inv h1 h0
    have e1 := add_ok ha hb hs
    obtain ⟨⟨g0, g0'⟩, ⟨g1, g1'⟩, ⟨g2, g2'⟩⟩ := g
    have a1 := ha.l0; have a2 := ha.l1; have a3 := ha.h0; have a4 := ha.h1; have a5 := hb.l0; have a6 := hb.l1; have a7 := hb.h0; have a8 := hb.h1; have a9 := ha.lh; have a10 := hb.lh
    have d1 : IntKind.wrap .i64 (IntKind.wrap .i64 (a.high - a.low) + 1) = a.high - a.low + 1 := by rw [wrap64 (x := a.high - a.low) (by omega) (by omega), wrap64 (by omega) (by omega)]
    have d2 : IntKind.wrap .i64 (IntKind.wrap .i64 (b.high - b.low) + 1) = b.high - b.low + 1 := by rw [wrap64 (x := b.high - b.low) (by omega) (by omega), wrap64 (by omega) (by omega)]
    have d3 : IntKind.wrap .i64 (IntKind.wrap .i64 ((a.high + b.high) - (a.low + b.low)) + 1) = (a.high + b.high) - (a.low + b.low) + 1 := by rw [wrap64 (x := (a.high + b.high) - (a.low + b.low)) (by omega) (by omega), wrap64 (by omega) (by omega)]
    have v0 : IntKind.wrap .i64 y.a0 = y.a0 := wrap64 (by omega) (by omega)
    have v1 : IntKind.wrap .i64 y.a1 = y.a1 := wrap64 (by omega) (by omega)
    have v2 : IntKind.wrap .i64 y.a2 = y.a2 := wrap64 (by omega) (by omega)
    obtain ⟨m0, hm0, l0, u0⟩ : ∃ m, Int.tmod y.a0 (a.high - a.low + 1) = m ∧ 0 ≤ m ∧ m < a.high - a.low + 1 := ⟨_, rfl, Int.tmod_nonneg _ g0, Int.tmod_lt_of_pos _ (by omega)⟩
    obtain ⟨m1, hm1, l1, u1⟩ : ∃ m, Int.tmod y.a1 (b.high - b.low + 1) = m ∧ 0 ≤ m ∧ m < b.high - b.low + 1 := ⟨_, rfl, Int.tmod_nonneg _ g1, Int.tmod_lt_of_pos _ (by omega)⟩
    obtain ⟨m2, hm2, l2, u2⟩ : ∃ m, Int.tmod y.a2 ((a.high + b.high) - (a.low + b.low) + 1) = m ∧ 0 ≤ m ∧ m < (a.high + b.high) - (a.low + b.low) + 1 := ⟨_, rfl, Int.tmod_nonneg _ g2, Int.tmod_lt_of_pos _ (by omega)⟩
    have w0 : IntKind.wrap .i64 (a.low + m0) = a.low + m0 := wrap64 (by omega) (by omega)
    have w1 : IntKind.wrap .i64 (b.low + m1) = b.low + m1 := wrap64 (by omega) (by omega)
    have w2 : IntKind.wrap .i64 ((a.low + m0) + (b.low + m1)) = (a.low + m0) + (b.low + m1) := wrap64 (by omega) (by omega)
    have w3 : IntKind.wrap .i64 ((a.low + b.low) + m2) = (a.low + b.low) + m2 := wrap64 (by omega) (by omega)
    have w4 : IntKind.wrap .i64 ((a.low + b.low) + m2 - b.high) = (a.low + b.low) + m2 - b.high := wrap64 (by omega) (by omega)
    have w5 : IntKind.wrap .i64 ((a.low + b.low) + m2 - (if (a.low + b.low) + m2 - b.high > a.low then (a.low + b.low) + m2 - b.high else a.low)) = (a.low + b.low) + m2 - (if (a.low + b.low) + m2 - b.high > a.low then (a.low + b.low) + m2 - b.high else a.low) := by
      split <;> exact wrap64 (by omega) (by omega)
    have z1 : (a.high - a.low + 1 != 0) = true := by simp; omega
    have z2 : (b.high - b.low + 1 != 0) = true := by simp; omega
    have z3 : ((a.high + b.high) - (a.low + b.low) + 1 != 0) = true := by simp; omega
    have gt : guardO true = some () := rfl
    have hsum : Ok ⟨a.low + b.low, a.high + b.high⟩ := ⟨by show 0 ≤ a.low + b.low; omega, by show a.low + b.low ≤ 1000000; omega, by show 0 ≤ a.high + b.high; omega, hs, by show a.low + b.low ≤ a.high + b.high; omega⟩
    simp only [h0, beq_self_eq_true, Bool.not_true, Bool.false_eq_true, if_false, d1, d2, v0, v1, v2, z1, z2, gt, Option.bind_some, add_eq, later_eq, earlier_eq, e1, later_ok ha hb, earlier_ok ha hb, w000, wz, bne_self_eq_false, hm0, hm1, w0, w1, w2, ref03_Has, d3, hm2, w3, w4, z3, w5, check_ok hsum]
    have t1 : (decide ((a.low + m0) + (b.low + m1) ≥ a.low + b.low) && decide ((a.low + m0) + (b.low + m1) ≤ a.high + b.high)) = true := by
      rw [Bool.and_eq_true, decide_eq_true_iff, decide_eq_true_iff]; omega
    have t2 : (decide ((if b.low + m1 > a.low + m0 then b.low + m1 else a.low + m0) ≥ mx a.low b.low) && decide ((if b.low + m1 > a.low + m0 then b.low + m1 else a.low + m0) ≤ mx a.high b.high)) = true := by
      rw [Bool.and_eq_true, decide_eq_true_iff, decide_eq_true_iff]; simp only [mx]; constructor <;> split <;> split <;> omega
    have t3 : (decide ((if b.low + m1 < a.low + m0 then b.low + m1 else a.low + m0) ≥ mn a.low b.low) && decide ((if b.low + m1 < a.low + m0 then b.low + m1 else a.low + m0) ≤ mn a.high b.high)) = true := by
      rw [Bool.and_eq_true, decide_eq_true_iff, decide_eq_true_iff]; simp only [mn]; constructor <;> split <;> split <;> omega
    have t4 : (decide ((if (a.low + b.low) + m2 - b.high > a.low then (a.low + b.low) + m2 - b.high else a.low) ≥ a.low) && decide ((if (a.low + b.low) + m2 - b.high > a.low then (a.low + b.low) + m2 - b.high else a.low) ≤ a.high)) = true := by
      rw [Bool.and_eq_true, decide_eq_true_iff, decide_eq_true_iff]; constructor <;> split <;> omega
    have t5 : (decide ((a.low + b.low) + m2 - (if (a.low + b.low) + m2 - b.high > a.low then (a.low + b.low) + m2 - b.high else a.low) ≥ b.low) && decide ((a.low + b.low) + m2 - (if (a.low + b.low) + m2 - b.high > a.low then (a.low + b.low) + m2 - b.high else a.low) ≤ b.high)) = true := by
      rw [Bool.and_eq_true, decide_eq_true_iff, decide_eq_true_iff]; constructor <;> split <;> omega
    simp only [t1, t2, t3, t4, t5, Bool.not_true, Bool.false_eq_true, if_false, if_true, Option.bind_some, awake_true, bne_self_eq_false]
  · have : (r.2 == 0) = false := by simpa using h0
    simp [this, awake_true]
end Go.Proofs.YtllhdlnnlckceaaDoor.W
