/- The plain laws of the journal, third part: where an item is found, and what an entry does. -/
import Derived.Test.YtpocodofhkaddaaGreatDoorLawB
set_option linter.unusedVariables false
set_option linter.unusedSimpArgs false
namespace Go.Proofs.YtpocodofhkaddaaGreatDoor.W
open Go Go.RowKit
theorem wrapu64 {x : Int} (h : 0 ≤ x) (k : x ≤ 18446744073709551615) : IntKind.wrap .u64 x = x := by
  unfold IntKind.wrap
  simp [IntKind.bits, IntKind.signed]
  omega
theorem mid_eq {i j : Nat} (h : i + j ≤ 1099511627776) : IntKind.wrap .i64 ((IntKind.wrap .u64 (IntKind.wrap .i64 ((i : Int) + (j : Int)))) / 2 ^ 1) = (((i + j) / 2 : Nat) : Int) := by
  rw [wrap64 (x := (i : Int) + j) (by omega) (by omega), wrapu64 (by omega) (by omega), wrap64 (by omega) (by omega)]
  omega
/-- where a name stands -/
structure Cut (l : List Item) (name : List UInt8) (A : List Item) (o : Option Item) (B : List Item) : Prop where
  eq : l = A ++ (o.toList ++ B)
  lo : ∀ x ∈ A, ltB x.name name
  hit : ∀ y, o = some y → y.name = name
  hi : ∀ x ∈ B, ltB name x.name
theorem cut_of (name : List UInt8) : ∀ l : List Item, (l.Pairwise fun x y => ltB x.name y.name) → ∃ A o B, Cut l name A o B
  | [], _ => ⟨[], none, [], rfl, by simp, by simp, by simp⟩
  | x :: r, h => by
    obtain ⟨h1, h2⟩ := List.pairwise_cons.1 h
    cases k : Op.bytesLess x.name name
    · by_cases e : x.name = name
      · exact ⟨[], some x, r, rfl, by simp, fun y hy => by cases hy; exact e, fun y hy => by rw [← e]; exact h1 y hy⟩
      · have k2 := ltB_tri k e
        refine ⟨[], none, x :: r, rfl, by simp, by simp, fun y hy => ?_⟩
        rcases List.mem_cons.1 hy with rfl | hy
        · exact k2
        · exact ltB_trans k2 (h1 y hy)
    · obtain ⟨A, o, B, c⟩ := cut_of name r h2
      refine ⟨x :: A, o, B, by rw [c.eq]; rfl, fun y hy => ?_, c.hit, c.hi⟩
      rcases List.mem_cons.1 hy with rfl | hy
      · exact k
      · exact c.lo y hy
theorem bs_loop (m : Machine) (name : List UInt8) (k : Int → Option (Int × Bool)) (A B : List Item) (e : m.items = A ++ B) (hA : ∀ x ∈ A, Op.bytesLess x.name name = true) (hB : ∀ x ∈ B, Op.bytesLess x.name name = false) (hb : m.items.length ≤ 1073741824) :
    ∀ fuel i j : Nat, j - i < fuel → i ≤ A.length → A.length ≤ j → j ≤ m.items.length → journal_find_loop1 m name k fuel (i : Int) (j : Int) = k (A.length : Int)
  | 0, i, j, h, _, _, _ => by omega
  | fuel + 1, i, j, h, h1, h2, h3 => by
    unfold journal_find_loop1
    by_cases hij : i < j
    · rw [if_pos (decide_eq_true (by omega)), mid_eq (by omega)]
      have hm : (i + j) / 2 < m.items.length := by omega
      have ha : at? m.items (((i + j) / 2 : Nat) : Int) = some m.items[(i + j) / 2] := by
        unfold at?
        rw [if_pos (by omega), Int.toNat_natCast]
        exact List.getElem?_eq_getElem hm
      rw [ha, Option.bind_some]
      unfold cmpS
      rw [Option.bind_some, cmp_lt]
      by_cases hlt : (i + j) / 2 < A.length
      · have hx : m.items[(i + j) / 2] ∈ A := by
          have : m.items[(i + j) / 2] = A[(i + j) / 2] := by simp [e, List.getElem_append_left hlt]
          rw [this]
          exact List.getElem_mem hlt
        rw [if_pos (hA _ hx), wrap64 (by omega) (by omega)]
        exact bs_loop m name k A B e hA hB hb fuel ((i + j) / 2 + 1) j (by omega) (by omega) h2 h3
      · have hx : m.items[(i + j) / 2] ∈ B := by
          have : m.items[(i + j) / 2] = B[(i + j) / 2 - A.length]'(by rw [e, List.length_append] at hm; omega) := by simp [e, List.getElem_append_right (Nat.le_of_not_lt hlt)]
          rw [this]
          exact List.getElem_mem _
        rw [if_neg (by rw [hB _ hx]; decide)]
        exact bs_loop m name k A B e hA hB hb fuel i ((i + j) / 2) (by omega) h1 (by omega) (by omega)
    · rw [if_neg (by rw [decide_eq_true_eq]; omega)]
      have : i = A.length := by omega
      rw [this]
theorem find_cut {m : Machine} {name : List UInt8} {A B : List Item} {o : Option Item} (c : Cut m.items name A o B) (hb : m.items.length ≤ 1073741824) : journal_find m name = some ((A.length : Int), o.isSome) := by
  unfold journal_find joinK
  have hB : ∀ x ∈ o.toList ++ B, Op.bytesLess x.name name = false := fun x hx => by
    rcases List.mem_append.1 hx with q | q
    · rw [c.hit x (by simpa using q)]
      exact ltB_irrefl _
    · exact ltB_asymm (c.hi x q)
  have e0 := bs_loop m name (fun i3 => (if (decide (i3 < (m.items.length : Int))) = true then (at? m.items i3).bind fun x2 => (cmpS x2.name name).bind fun r2 => some (r2 == 0) else some false).bind fun c1 => some (i3, c1)) A (o.toList ++ B) c.eq c.lo hB hb (m.items.length + 1) 0 m.items.length (by omega) (by omega) (by rw [c.eq, List.length_append]; omega) (Nat.le_refl _)
  simp only [Int.natCast_zero] at e0
  refine Eq.trans e0 ?_
  cases o with
  | none =>
    cases B with
    | nil =>
      have hl : m.items = A := by rw [c.eq]; simp
      rw [hl, if_neg (by simp)]
      rfl
    | cons y B =>
      have hl : m.items = A ++ y :: B := by rw [c.eq]; rfl
      rw [hl, lt_mid, if_pos rfl, at?_mid, Option.bind_some]
      unfold cmpS
      rw [Option.bind_some, cmp_eq0]
      have := ltB_ne (c.hi y (List.mem_cons_self ..))
      have hn : (y.name == name) = false := by simpa using this.symm
      rw [hn]
      rfl
  | some y =>
    have hl : m.items = A ++ y :: B := by rw [c.eq]; rfl
    rw [hl, lt_mid, if_pos rfl, at?_mid, Option.bind_some]
    unfold cmpS
    rw [Option.bind_some, cmp_eq0, c.hit y rfl]
    simp
theorem place_skip (m : Machine) (name : List UInt8) (k : Option Int) (hb : m.items.length ≤ 1073741824) : ∀ (s pre rest : List Item), m.items = pre ++ (s ++ rest) → (∀ x ∈ s, x.name ≠ name) → ref58_Place_loop1 m name k ((s ++ rest).length + 1) (pre.length : Int) = ref58_Place_loop1 m name k (rest.length + 1) ((pre ++ s).length : Int)
  | [], pre, rest, e, h => by simp
  | x :: s, pre, rest, e, h => by
    have e' : m.items = pre ++ x :: (s ++ rest) := e
    have hx : (x.name == name) = false := by simpa using h x (List.mem_cons_self ..)
    rw [show (x :: s ++ rest).length + 1 = (s ++ rest).length + 1 + 1 from rfl]
    conv => lhs; unfold ref58_Place_loop1
    rw [e', lt_mid, if_pos rfl, at?_mid, Option.bind_some, hx, if_neg (by decide), wrap_mid (x := x) (r := s ++ rest) (by rw [← e']; omega)]
    have := place_skip m name k hb s (pre ++ [x]) rest (by rw [e']; simp) (fun y hy => h y (List.mem_cons_of_mem _ hy))
    rw [this]
    simp
theorem place_cut {m : Machine} {name : List UInt8} {A B : List Item} {o : Option Item} (c : Cut m.items name A o B) (hb : m.items.length ≤ 1073741824) : ref58_Place m name = some (if o.isSome then (A.length : Int) else -1) := by
  unfold ref58_Place joinK
  rw [fuel0]
  cases o with
  | none =>
    have hl : m.items = [] ++ ((A ++ B) ++ []) := by rw [c.eq]; simp
    have e0 := place_skip m name (some (-1)) hb (A ++ B) [] [] hl (fun x hx => by
      rcases List.mem_append.1 hx with q | q
      · exact ltB_ne (c.lo x q)
      · exact (ltB_ne (c.hi x q)).symm)
    have hl2 : m.items = (A ++ B) ++ [] := by rw [c.eq]; simp
    have hlen : (A ++ B ++ []).length = m.items.length := congrArg List.length hl2.symm
    rw [hlen] at e0
    simp only [List.length_nil, Int.natCast_zero] at e0
    refine e0.trans ?_
    unfold ref58_Place_loop1
    rw [hl2, show ([] ++ (A ++ B)) = A ++ B from rfl, ge_end]
    rfl
  | some y =>
    have hl : m.items = [] ++ (A ++ y :: B) := by rw [c.eq]; rfl
    have e0 := place_skip m name (some (-1)) hb A [] (y :: B) hl (fun x hx => ltB_ne (c.lo x hx))
    have hlen : (A ++ y :: B).length = m.items.length := congrArg List.length hl.symm
    rw [hlen] at e0
    simp only [List.length_nil, Int.natCast_zero] at e0
    refine e0.trans ?_
    unfold ref58_Place_loop1
    rw [hl, show ([] ++ A) = A from rfl, show ([] ++ (A ++ y :: B)) = A ++ y :: B from rfl, lt_mid, if_pos rfl, at?_mid, Option.bind_some, c.hit y rfl]
    simp
theorem set_mid {α : Type} {A B : List α} {y z : α} : List.set (A ++ y :: B) (Int.toNat (A.length : Int)) z = A ++ z :: B := by
  simp
/-- the entry is right -/
structure GoodE (x : Entry) : Prop where
  k0 : 0 ≤ x.kind
  k1 : x.kind ≤ 5
  nm : word x.name = 0
  cn : (x.kind = 0 ∨ x.kind = 1 ∨ x.kind = 4) → 1 ≤ x.count ∧ x.count ≤ 1048576
  cz : ¬ (x.kind = 0 ∨ x.kind = 1 ∨ x.kind = 4) → x.count = 0
  sn : x.kind = 1 → 0 ≤ x.strokes ∧ x.strokes ≤ 1048576
  sz : x.kind ≠ 1 → x.strokes = 0
def fresh (x : Entry) (cyc : Int) : Item := ⟨x.name, x.count, 0, 0, false, cyc, 0⟩
/-- what an entry does to the item of its name: the error, the cycles, the item -/
def act (x : Entry) (cyc : Int) (y : Item) : Int × Int × Option Item :=
  if x.kind = 1 then
    if y.faulty = true then (14, cyc, none)
    else if cyc + x.count > 1048576 ∨ y.used + x.count * x.strokes > 1048576 then (11, cyc, none)
    else (0, cyc + x.count, some ⟨y.name, y.life, y.used + x.count * x.strokes, y.faults, y.faulty, y.since, y.cycles + x.count⟩)
  else if x.kind = 2 then
    if y.faulty = true then (14, cyc, none)
    else if y.faults = 4096 then (5, cyc, none)
    else (0, cyc, some ⟨y.name, y.life, y.used, y.faults + 1, true, y.since, y.cycles⟩)
  else if x.kind = 3 then
    if y.faulty = true then (0, cyc, some ⟨y.name, y.life, y.used, y.faults, false, y.since, y.cycles⟩)
    else (14, cyc, none)
  else if x.kind = 4 then (0, cyc, some (fresh x cyc))
  else (0, cyc, none)
def fin (A B : List Item) (r : Int × Int × Option Item) : Machine × Int := if r.1 = 0 then (⟨A ++ (r.2.2.toList ++ B), r.2.1⟩, 0) else (⟨[], 0⟩, r.1)
/-- what an entry does to a machine -/
def res (x : Entry) (cyc : Int) (A : List Item) (o : Option Item) (B : List Item) : Machine × Int :=
  match o with
  | some y => if x.kind = 0 then (⟨[], 0⟩, 7) else fin A B (act x cyc y)
  | none => if x.kind = 0 then (if (A ++ B).length = 256 then (⟨[], 0⟩, 5) else (⟨A ++ fresh x cyc :: B, cyc⟩, 0)) else (⟨[], 0⟩, 6)
end Go.Proofs.YtpocodofhkaddaaGreatDoor.W
