/- The plain laws of the journal, fourth part: what an entry does. -/
import Derived.Test.YtpocodofhkaddaaGreatDoorLawC
set_option linter.unusedVariables false
set_option linter.unusedSimpArgs false
set_option maxHeartbeats 2000000
namespace Go.Proofs.YtpocodofhkaddaaGreatDoor.W
open Go Go.RowKit
theorem mulB {a b : Int} (h0 : 0 ≤ a) (h1 : a ≤ 1048576) (k0 : 0 ≤ b) (k1 : b ≤ 1048576) : 0 ≤ a * b ∧ a * b ≤ 1099511627776 := by
  refine ⟨Int.mul_nonneg h0 k0, ?_⟩
  have := Int.mul_le_mul h1 k1 k0 (by omega : (0 : Int) ≤ 1048576)
  omega
structure ActW (x : Entry) (cyc : Int) (y : Item) : Prop where
  w1 : IntKind.wrap .i64 (cyc + x.count) = cyc + x.count
  w2 : IntKind.wrap .i64 (x.count * x.strokes) = x.count * x.strokes
  w3 : IntKind.wrap .i64 (y.used + x.count * x.strokes) = y.used + x.count * x.strokes
  w4 : IntKind.wrap .i64 (y.cycles + x.count) = y.cycles + x.count
  w5 : IntKind.wrap .i64 (y.faults + 1) = y.faults + 1
theorem act_wrap {x : Entry} {m : Machine} {y : Item} (g : Good m) (e : GoodE x) (hy : IOk m.cycles y) : ActW x m.cycles y := by
  have hcnt : 0 ≤ x.count ∧ x.count ≤ 1048576 := by
    by_cases h : x.kind = 0 ∨ x.kind = 1 ∨ x.kind = 4
    · have := e.cn h; omega
    · have := e.cz h; omega
  have hst : 0 ≤ x.strokes ∧ x.strokes ≤ 1048576 := by
    by_cases h : x.kind = 1
    · exact e.sn h
    · have := e.sz h; omega
  have hm := mulB hcnt.1 hcnt.2 hst.1 hst.2
  have := g.c0; have := g.c1
  obtain ⟨_, _, _, h3, h4, h5, h6, h7, h8, h9, _⟩ := hy
  exact ⟨wrap64 (by omega) (by omega), wrap64 (by omega) (by omega), wrap64 (by omega) (by omega), wrap64 (by omega) (by omega), wrap64 (by omega) (by omega)⟩
theorem ite_dec {α : Type} {p : Prop} [Decidable p] {a b : α} : (if decide p = true then a else b) = if p then a else b := by
  by_cases h : p <;> simp [h]
theorem ins_mid {A B : List Item} {z : Item} (h : (A ++ B).length ≤ 256) : insO 64 (A ++ B) (A.length : Int) [z] = some (A ++ z :: B) := by
  unfold insO
  have hl := h
  rw [List.length_append] at hl
  rw [if_pos ⟨by omega, by rw [List.length_append]; omega, by rw [List.length_append]; simp; omega, by rw [List.length_append, maxLen_eq]; simp; omega⟩]
  simp
theorem del_mid {A B : List Item} {y : Item} (h : (A ++ y :: B).length ≤ 256) : delO (A ++ y :: B) (A.length : Int) (IntKind.wrap .i64 ((A.length : Int) + 1)) = some (A ++ B) := by
  have hl := h
  rw [List.length_append, List.length_cons] at hl
  rw [wrap64 (by omega) (by omega)]
  unfold delO
  rw [if_pos ⟨by omega, by omega, by rw [List.length_append, List.length_cons]; omega⟩]
  have : ((A.length : Int) + 1).toNat = (A ++ [y]).length := by simp
  rw [this, mid_cons, List.drop_left]
  simp
theorem jdone_miss {m : Machine} {x : Entry} {A B : List Item} (g : Good m) (e : GoodE x) (c : Cut m.items x.name A none B) : journal_done m x = some (res x m.cycles A none B) := by
  have hl : m.items = A ++ B := by rw [c.eq]; rfl
  have hlen : (A ++ B).length ≤ 256 := by rw [← hl]; exact g.len
  unfold journal_done
  rw [find_cut c (by have := g.len; omega), Option.bind_some]
  have hk0 := e.k0
  unfold res
  by_cases hk : x.kind = 0
  · simp only [hk, Option.isSome_none, Bool.and_false, Bool.false_eq_true, if_false, bne_self_eq_false, Bool.false_and, joinK, BEq.rfl, if_true]
    rw [appO_ok (by have := g.len; simp; omega) (by decide), Option.bind_some, hl]
    by_cases h256 : (A ++ B).length = 256
    · have h1 : (((A ++ B).length : Int) == 256) = true := by simp only [beq_iff_eq]; omega
      rw [h1, if_pos rfl, if_pos h256]
      rfl
    · have h1 : (((A ++ B).length : Int) == 256) = false := by simp only [beq_eq_false_iff_ne, ne_eq]; omega
      rw [h1, if_neg (by decide), ins_mid hlen, if_neg h256]
      rfl
  · have h1 : (x.kind == 0) = false := by simpa using hk
    have h2 : (x.kind != 0) = true := by simpa using hk
    simp only [h1, h2, Option.isSome_none, Bool.false_and, Bool.false_eq_true, if_false, Bool.not_false, Bool.and_self, if_true, if_neg hk]
theorem jdone_hit {m : Machine} {x : Entry} {A B : List Item} {y : Item} (g : Good m) (e : GoodE x) (c : Cut m.items x.name A (some y) B) : journal_done m x = some (res x m.cycles A (some y) B) := by
  have hl : m.items = A ++ y :: B := by rw [c.eq]; rfl
  have hlen : (A ++ y :: B).length ≤ 256 := by rw [← hl]; exact g.len
  have hy : IOk m.cycles y := g.ok y (by rw [hl]; simp)
  have w := act_wrap g e hy
  unfold journal_done
  rw [find_cut c (by have := g.len; omega), Option.bind_some]
  have hk0 := e.k0; have hk1 := e.k1
  by_cases hk : x.kind = 0
  · simp only [res, hk, Option.isSome_some, BEq.rfl, Bool.and_self, if_true]
  · have h1 : (x.kind == 0) = false := by simpa using hk
    simp only [res, if_neg hk, h1, Option.isSome_some, Bool.false_and, Bool.not_true, Bool.and_false, Bool.false_eq_true, if_false, joinK]
    rw [appO_ok (by have := g.len; simp; omega) (by decide), Option.bind_some, hl]
    have hcases : x.kind = 1 ∨ x.kind = 2 ∨ x.kind = 3 ∨ x.kind = 4 ∨ x.kind = 5 := by omega
    rcases hcases with hk | hk | hk | hk | hk
    · simp only [hk, BEq.rfl, if_true, at?_mid, Option.bind_some, act, w.w1, w.w2, w.w3, w.w4]
      cases hf : y.faulty
      · simp only [Bool.false_eq_true, if_false]
        by_cases hq : m.cycles + x.count > 1048576 ∨ y.used + x.count * x.strokes > 1048576
        · have hb : (decide (m.cycles + x.count > 1048576) || decide (y.used + x.count * x.strokes > 1048576)) = true := by simpa using hq
          rw [hb, if_pos rfl, if_pos hq]
          rfl
        · have hb : (decide (m.cycles + x.count > 1048576) || decide (y.used + x.count * x.strokes > 1048576)) = false := by
            rw [← Bool.not_eq_true, Bool.or_eq_true, decide_eq_true_eq, decide_eq_true_eq]
            exact hq
          rw [hb, if_neg (by decide), if_neg hq, set_mid, set_mid]
          rfl
      · simp only [if_true]
        rfl
    · simp only [hk, show ((2 : Int) == 1) = false from rfl, Bool.false_eq_true, if_false, BEq.rfl, if_true, at?_mid, Option.bind_some, act, w.w5, show ¬ ((2 : Int) = 1) from by decide]
      cases hf : y.faulty
      · simp only [Bool.false_eq_true, if_false]
        by_cases hq : y.faults = 4096
        · have hb : (y.faults == 4096) = true := by simpa using hq
          rw [hb, if_pos rfl, if_pos hq]
          rfl
        · have hb : (y.faults == 4096) = false := by simpa using hq
          rw [hb, if_neg (by decide), if_neg hq, set_mid, set_mid]
          rfl
      · simp only [if_true]
        rfl
    · simp only [hk, show ((3 : Int) == 1) = false from rfl, show ((3 : Int) == 2) = false from rfl, Bool.false_eq_true, if_false, BEq.rfl, if_true, at?_mid, Option.bind_some, act, show ¬ ((3 : Int) = 1) from by decide, show ¬ ((3 : Int) = 2) from by decide]
      cases hf : y.faulty
      · rfl
      · simp only [Bool.not_true, Bool.false_eq_true, if_false, if_true]
        rw [set_mid]
        rfl
    · simp only [hk, show ((4 : Int) == 1) = false from rfl, show ((4 : Int) == 2) = false from rfl, show ((4 : Int) == 3) = false from rfl, Bool.false_eq_true, if_false, BEq.rfl, if_true, at?_mid, Option.bind_some, act, show ¬ ((4 : Int) = 1) from by decide, show ¬ ((4 : Int) = 2) from by decide, show ¬ ((4 : Int) = 3) from by decide, set_mid]
      rfl
    · simp only [hk, show ((5 : Int) == 1) = false from rfl, show ((5 : Int) == 2) = false from rfl, show ((5 : Int) == 3) = false from rfl, show ((5 : Int) == 4) = false from rfl, Bool.false_eq_true, if_false, BEq.rfl, if_true, act, show ¬ ((5 : Int) = 1) from by decide, show ¬ ((5 : Int) = 2) from by decide, show ¬ ((5 : Int) = 3) from by decide, show ¬ ((5 : Int) = 4) from by decide]
      rw [del_mid hlen, Option.bind_some]
      rfl
theorem added_skip (m : Machine) (x : Entry) (k : Bool → List Item → Option (Machine × Int)) (hb : m.items.length ≤ 256) : ∀ (s pre rest acc : List Item) (d : Bool), m.items = pre ++ (s ++ rest) → acc.length + s.length ≤ 300 → (d = true ∨ ∀ y ∈ s, ltB y.name x.name) →
    ref58_added_loop1 m x k ((s ++ rest).length + 1) d (pre.length : Int) acc = ref58_added_loop1 m x k (rest.length + 1) d ((pre ++ s).length : Int) (acc ++ s)
  | [], pre, rest, acc, d, e, _, _ => by simp
  | y :: s, pre, rest, acc, d, e, hacc, h => by
    have e' : m.items = pre ++ y :: (s ++ rest) := e
    simp only [List.length_cons] at hacc
    have hc : (if (!d) = true then (at? m.items (pre.length : Int)).bind fun x1 => some (!(Op.bytesLess x1.name x.name || x1.name == x.name)) else some false) = some false := by
      rcases h with h | h
      · subst h; rfl
      · cases d
        · rw [e', at?_mid]
          simp only [Bool.not_false, if_true, Option.bind_some, h y (List.mem_cons_self ..), Bool.true_or, Bool.not_true]
        · rfl
    rw [show (y :: s ++ rest).length + 1 = (s ++ rest).length + 1 + 1 from rfl]
    conv => lhs; unfold ref58_added_loop1
    have hlt : decide ((pre.length : Int) < (m.items.length : Int)) = true := by rw [e']; exact lt_mid
    rw [hlt, if_pos rfl, hc]
    unfold joinK
    simp only [Option.bind_some, Bool.false_eq_true, if_false]
    have hat : at? m.items (pre.length : Int) = some y := by rw [e', at?_mid]
    have hw : IntKind.wrap .i64 ((pre.length : Int) + 1) = ((pre ++ [y]).length : Int) := wrap_mid (x := y) (r := s ++ rest) (by rw [← e']; omega)
    rw [hat, Option.bind_some, appO_ok (by simp; omega) (by decide), Option.bind_some, hw]
    have := added_skip m x k hb s (pre ++ [y]) rest (acc ++ [y]) d (by rw [e']; simp) (by simp; omega) (by
      rcases h with h | h
      · exact .inl h
      · exact .inr fun z hz => h z (List.mem_cons_of_mem _ hz))
    rw [this]
    simp
theorem added_end (m : Machine) (x : Entry) (k : Bool → List Item → Option (Machine × Int)) (d : Bool) (acc : List Item) : ref58_added_loop1 m x k 1 d (m.items.length : Int) acc = k d acc := by
  unfold ref58_added_loop1
  simp
theorem added_miss {m : Machine} {x : Entry} {A B : List Item} (g : Good m) (c : Cut m.items x.name A none B) : ref58_added m x = some (if (A ++ B).length = 256 then (⟨[], 0⟩, 5) else (⟨A ++ fresh x m.cycles :: B, m.cycles⟩, 0)) := by
  have hl : m.items = A ++ B := by rw [c.eq]; rfl
  have hlen : (A ++ B).length ≤ 256 := by rw [← hl]; exact g.len
  have hlen' := hlen
  rw [List.length_append] at hlen'
  unfold ref58_added
  rw [place_cut c (by have := g.len; omega), Option.bind_some]
  simp only [Option.isSome_none, Bool.false_eq_true, if_false, show decide ((-1 : Int) ≥ 0) = false from rfl]
  by_cases h256 : (A ++ B).length = 256
  · have h1 : ((m.items.length : Int) == 256) = true := by rw [hl]; simp only [beq_iff_eq]; omega
    rw [h1, if_pos rfl, if_pos h256]
  · have h1 : ((m.items.length : Int) == 256) = false := by rw [hl]; simp only [beq_eq_false_iff_ne, ne_eq]; omega
    rw [h1, if_neg (by decide), if_neg h256]
    unfold joinK
    dsimp only
    rw [fuel0]
    have e1 := fun k => added_skip m x k g.len A [] B [] false (by rw [hl]; rfl) (by simp; omega) (.inr c.lo)
    have hA : (A ++ B).length + 1 = m.items.length + 1 := by rw [hl]
    simp only [hA, List.length_nil, Int.natCast_zero, List.nil_append] at e1
    rw [e1]
    cases B with
    | nil =>
      have hAl : (A.length : Int) = (m.items.length : Int) := by rw [hl]; simp
      rw [List.length_nil, hAl]
      refine (added_end m x _ false A).trans ?_
      simp only [Bool.not_false, if_true]
      rw [appO_ok (by simp; simp at hlen'; omega) (by decide), Option.bind_some]
      rfl
    | cons y B =>
      have hy := c.hi y (List.mem_cons_self ..)
      have hat : at? m.items (A.length : Int) = some y := by rw [hl, at?_mid]
      have hlt : decide ((A.length : Int) < (m.items.length : Int)) = true := by rw [hl]; exact lt_mid
      have hw : IntKind.wrap .i64 ((A.length : Int) + 1) = ((A ++ [y]).length : Int) := wrap_mid (x := y) (r := B) (by omega)
      rw [List.length_cons]
      conv => lhs; unfold ref58_added_loop1
      have hyn : (y.name == x.name) = false := by simpa using (ltB_ne hy).symm
      simp only [List.length_cons] at hlen'
      rw [hlt, if_pos rfl, hat]
      unfold joinK
      simp only [Bool.not_false, if_true, Option.bind_some, ltB_asymm hy, hyn, Bool.or_self]
      rw [appO_ok (by simp; omega) (by decide), Option.bind_some]
      rw [appO_ok (by simp; omega) (by decide), Option.bind_some, hw]
      have e2 := fun k => added_skip m x k g.len B (A ++ [y]) [] (A ++ [fresh x m.cycles] ++ [y]) true (by rw [hl]; simp) (by simp; omega) (.inl rfl)
      have hB : (B ++ ([] : List Item)).length + 1 = B.length + 1 := by simp
      simp only [hB] at e2
      refine (e2 _).trans ?_
      have hE : ((A ++ [y] ++ B).length : Int) = (m.items.length : Int) := by rw [hl]; simp
      rw [hE, List.length_nil]
      refine (added_end m x _ true _).trans ?_
      simp
theorem rdone_miss {m : Machine} {x : Entry} {A B : List Item} (g : Good m) (e : GoodE x) (c : Cut m.items x.name A none B) : ref58_Done m x = some (res x m.cycles A none B) := by
  unfold ref58_Done res
  by_cases hk : x.kind = 0
  · have h1 : (x.kind == 0) = true := by simpa using hk
    simp only [h1, if_true, added_miss g c, Option.bind_some, if_pos hk]
  · have h1 : (x.kind == 0) = false := by simpa using hk
    simp only [h1, Bool.false_eq_true, if_false, place_cut c (by have := g.len; omega), Option.isSome_none, Option.bind_some, if_neg hk, show decide ((-1 : Int) < 0) = true from rfl, if_true]
theorem rdone_hit {m : Machine} {x : Entry} {A B : List Item} {y : Item} (g : Good m) (e : GoodE x) (c : Cut m.items x.name A (some y) B) : ref58_Done m x = some (res x m.cycles A (some y) B) := by
  have hl : m.items = A ++ y :: B := by rw [c.eq]; rfl
  have hlen : (A ++ y :: B).length ≤ 256 := by rw [← hl]; exact g.len
  have hlen' := hlen
  rw [List.length_append, List.length_cons] at hlen'
  have hy : IOk m.cycles y := g.ok y (by rw [hl]; simp)
  have w := act_wrap g e hy
  have hp := place_cut c (by have := g.len; omega)
  simp only [Option.isSome_some, if_true] at hp
  have hk0 := e.k0; have hk1 := e.k1
  by_cases hk : x.kind = 0
  · have h1 : (x.kind == 0) = true := by simpa using hk
    unfold ref58_Done ref58_added
    have h2 : decide ((A.length : Int) ≥ 0) = true := decide_eq_true (by omega)
    simp only [h1, if_true, hp, Option.bind_some, h2, res, if_pos hk]
  · have h1 : (x.kind == 0) = false := by simpa using hk
    unfold ref58_Done
    have h2 : decide ((A.length : Int) < 0) = false := decide_eq_false (by omega)
    simp only [h1, Bool.false_eq_true, if_false, hp, Option.bind_some, h2, res, if_neg hk, joinK]
    rw [appO_ok (by have := g.len; simp; omega) (by decide), Option.bind_some]
    simp only [List.nil_append, hl, at?_mid, Option.bind_some]
    have hcases : x.kind = 1 ∨ x.kind = 2 ∨ x.kind = 3 ∨ x.kind = 4 ∨ x.kind = 5 := by omega
    rcases hcases with hk | hk | hk | hk | hk
    · simp only [hk, BEq.rfl, if_true, act, w.w1, w.w2, w.w3, w.w4]
      cases hf : y.faulty
      · simp only [Bool.false_eq_true, if_false]
        by_cases hq : m.cycles + x.count > 1048576 ∨ y.used + x.count * x.strokes > 1048576
        · have hb : (decide (m.cycles + x.count > 1048576) || decide (y.used + x.count * x.strokes > 1048576)) = true := by simpa using hq
          rw [hb, if_pos rfl, if_pos hq]
          rfl
        · have hb : (decide (m.cycles + x.count > 1048576) || decide (y.used + x.count * x.strokes > 1048576)) = false := by
            rw [← Bool.not_eq_true, Bool.or_eq_true, decide_eq_true_eq, decide_eq_true_eq]
            exact hq
          rw [hb, if_neg (by decide), if_neg hq, set_mid]
          rfl
      · simp only [if_true]
        rfl
    · simp only [hk, show ((2 : Int) == 1) = false from rfl, Bool.false_eq_true, if_false, BEq.rfl, if_true, act, w.w5, show ¬ ((2 : Int) = 1) from by decide]
      cases hf : y.faulty
      · simp only [Bool.false_eq_true, if_false]
        by_cases hq : y.faults = 4096
        · have hb : (y.faults == 4096) = true := by simpa using hq
          rw [hb, if_pos rfl, if_pos hq]
          rfl
        · have hb : (y.faults == 4096) = false := by simpa using hq
          rw [hb, if_neg (by decide), if_neg hq, set_mid]
          rfl
      · simp only [if_true]
        rfl
    · simp only [hk, show ((3 : Int) == 1) = false from rfl, show ((3 : Int) == 2) = false from rfl, Bool.false_eq_true, if_false, BEq.rfl, if_true, act, show ¬ ((3 : Int) = 1) from by decide, show ¬ ((3 : Int) = 2) from by decide]
      cases hf : y.faulty
      · rfl
      · simp only [Bool.not_true, Bool.false_eq_true, if_false, if_true]
        rw [set_mid]
        rfl
    · simp only [hk, show ((4 : Int) == 1) = false from rfl, show ((4 : Int) == 2) = false from rfl, show ((4 : Int) == 3) = false from rfl, Bool.false_eq_true, if_false, BEq.rfl, if_true, act, show ¬ ((4 : Int) = 1) from by decide, show ¬ ((4 : Int) = 2) from by decide, show ¬ ((4 : Int) = 3) from by decide, set_mid]
      rfl
    · simp only [hk, show ((5 : Int) == 1) = false from rfl, show ((5 : Int) == 2) = false from rfl, show ((5 : Int) == 3) = false from rfl, show ((5 : Int) == 4) = false from rfl, Bool.false_eq_true, if_false, BEq.rfl, if_true, act, show ¬ ((5 : Int) = 1) from by decide, show ¬ ((5 : Int) = 2) from by decide, show ¬ ((5 : Int) = 3) from by decide, show ¬ ((5 : Int) = 4) from by decide]
      have hw : IntKind.wrap .i64 ((A.length : Int) + 1) = ((A ++ [y]).length : Int) := wrap_mid (x := y) (r := B) (by omega)
      have p1 : part? (A ++ y :: B) 0 (A.length : Int) = some A := by
        unfold part?
        rw [if_pos ⟨by omega, by omega, by rw [List.length_append]; omega⟩]
        simp
      have p2 : part? (A ++ y :: B) ((A ++ [y]).length : Int) ((A ++ y :: B).length : Int) = some B := by
        unfold part?
        rw [if_pos ⟨by omega, by simp only [List.length_append, List.length_cons, List.length_nil]; omega, by omega⟩]
        rw [Int.toNat_natCast, Int.toNat_natCast, mid_cons, List.drop_left, List.take_of_length_le (by simp only [List.length_append, List.length_cons, List.length_nil]; omega)]
      rw [hw, p1, Option.bind_some, p2, Option.bind_some, appO_ok (by first | (simp; omega) | omega) (by decide), Option.bind_some, appO_ok (by first | omega | (simp; omega)) (by decide), Option.bind_some]
      rfl
end Go.Proofs.YtpocodofhkaddaaGreatDoor.W
