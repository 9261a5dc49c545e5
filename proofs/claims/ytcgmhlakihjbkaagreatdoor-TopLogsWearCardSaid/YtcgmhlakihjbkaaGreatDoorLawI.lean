/- The plain laws of the journal, sixth part: Due, Left, Run and Log; the laws JournalAsks and JournalRuns. -/
import Derived.Test.YtcgmhlakihjbkaaGreatDoorLawE
import Derived.Test.YtcgmhlakihjbkaaGreatDoorLibN
set_option linter.unusedVariables false
set_option linter.unusedSimpArgs false
set_option maxHeartbeats 2000000
namespace Go.Proofs.YtcgmhlakihjbkaaGreatDoor.W.J
open Go Go.RowKit
def dueB (y : Item) : Bool := y.faulty || decide (y.used ≥ y.life)
def dueL (l : List Item) : List (List UInt8) := (l.filter dueB).map (·.name)
theorem dueL_cons (x : Item) (r : List Item) : dueL (x :: r) = if dueB x = true then x.name :: dueL r else dueL r := by
  unfold dueL
  rw [List.filter_cons]
  split <;> rfl
theorem jdue_loop (m : Machine) (k : List (List UInt8) → Option (List (List UInt8) × Int)) (hb : m.items.length ≤ 256) : ∀ (r pre : List Item) (acc : List (List UInt8)), m.items = pre ++ r → acc.length + r.length ≤ 300 → journal_Due_loop1 m k (r.length + 1) (pre.length : Int) acc = k (acc ++ dueL r)
  | [], pre, acc, e, _ => by
    unfold journal_Due_loop1
    rw [e, ge_end]
    simp [dueL]
  | x :: r, pre, acc, e, ha => by
    simp only [List.length_cons] at ha
    unfold journal_Due_loop1 joinK
    dsimp only
    rw [e, lt_mid, if_pos rfl, at?_mid, Option.bind_some, wrap_mid (x := x) (r := r) (by rw [← e]; omega), dueL_cons]
    show (if dueB x = true then _ else _) = _
    cases hd : dueB x
    · simp only [Bool.false_eq_true, if_false]
      exact jdue_loop m k hb r (pre ++ [x]) acc (by rw [e, mid_cons]) (by omega)
    · simp only [if_true]
      rw [appO_ok (by simp; omega) (by decide), Option.bind_some]
      refine (jdue_loop m k hb r (pre ++ [x]) (acc ++ [x.name]) (by rw [e, mid_cons]) (by simp; omega)).trans ?_
      simp
theorem rdue_loop (m : Machine) (k : List (List UInt8) → Option (List (List UInt8) × Int)) (hb : m.items.length ≤ 256) : ∀ (r pre : List Item) (acc : List (List UInt8)), m.items = pre ++ r → acc.length + r.length ≤ 300 → ref58_Due_loop1 m k (r.length + 1) (pre.length : Int) acc = k (acc ++ dueL r)
  | [], pre, acc, e, _ => by
    unfold ref58_Due_loop1
    rw [e, ge_end]
    simp [dueL]
  | x :: r, pre, acc, e, ha => by
    simp only [List.length_cons] at ha
    unfold ref58_Due_loop1 joinK
    dsimp only
    rw [e, lt_mid, if_pos rfl, at?_mid, Option.bind_some, wrap_mid (x := x) (r := r) (by rw [← e]; omega), dueL_cons]
    show (if dueB x = true then _ else _) = _
    cases hd : dueB x
    · simp only [Bool.false_eq_true, if_false]
      exact rdue_loop m k hb r (pre ++ [x]) acc (by rw [e, mid_cons]) (by omega)
    · simp only [if_true]
      rw [appO_ok (by simp; omega) (by decide), Option.bind_some]
      refine (rdue_loop m k hb r (pre ++ [x]) (acc ++ [x.name]) (by rw [e, mid_cons]) (by simp; omega)).trans ?_
      simp
theorem due_good {m : Machine} (g : Good m) : journal_Due m = some (dueL m.items, 0) ∧ ref58_Due m = some (dueL m.items, 0) := by
  obtain ⟨k, h1, h2, h3⟩ := check_eq m (good_short g)
  have hk := h3.2 g
  subst hk
  have hl := g.len
  have e1 := jdue_loop m (fun l4 => some (l4, 0)) hl m.items [] [] rfl (by simp; omega)
  have e2 := rdue_loop m (fun l4 => some (l4, 0)) hl m.items [] [] rfl (by simp; omega)
  simp only [List.length_nil, Int.natCast_zero, List.nil_append] at e1 e2
  unfold journal_Due ref58_Due joinK
  rw [h1, h2]
  simp only [Option.bind_some, bne_self_eq_false, Bool.false_eq_true, if_false, fuel0]
  exact ⟨e1, e2⟩
/-- how many cycles an item lasts -/
def leftN (y : Item) (s : Int) : Int := if y.used ≥ y.life then 0 else Int.tdiv (y.life - y.used + s - 1) s
def leftS (o : Option Item) (s : Int) : Int × Int := match o with
  | none => (0, 6)
  | some y => if 1 ≤ s ∧ s ≤ 1048576 then (leftN y s, 0) else (0, 2)
theorem tdiv_small {s : Int} (h : 1 ≤ s) : Int.tdiv (s - 1) s = 0 := Int.tdiv_eq_zero_of_lt (by omega) (by omega)
theorem tdiv_bd {a s : Int} (h0 : 0 ≤ a) (h1 : a ≤ 4194304) (h : 1 ≤ s) : 0 ≤ Int.tdiv a s ∧ Int.tdiv a s ≤ 4194304 := by
  rw [Int.tdiv_eq_ediv_of_nonneg h0]
  refine ⟨Int.ediv_nonneg h0 (by omega), ?_⟩
  have := Int.ediv_le_self s h0
  omega
theorem left_good {m : Machine} {name : List UInt8} {A B : List Item} {o : Option Item} (g : Good m) (c : Cut m.items name A o B) (s : Int) : journal_Left m name s = some (leftS o s) ∧ ref58_Left m name s = some (leftS o s) := by
  obtain ⟨k, h1, h2, h3⟩ := check_eq m (good_short g)
  have hk := h3.2 g
  subst hk
  have hl := g.len
  unfold journal_Left ref58_Left
  rw [h1, h2, find_cut c (by omega), place_cut c (by omega)]
  simp only [Option.bind_some, bne_self_eq_false, Bool.false_eq_true, if_false]
  cases o with
  | none => exact ⟨rfl, rfl⟩
  | some y =>
    have hlm : m.items = A ++ y :: B := by rw [c.eq]; rfl
    have hA : decide ((A.length : Int) < 0) = false := decide_eq_false (by omega)
    obtain ⟨_, y1, y2, y3, y4, _⟩ := g.ok y (by rw [hlm]; simp)
    simp only [Option.isSome_some, Bool.not_true, Bool.false_eq_true, if_false, if_true, hA, hlm, at?_mid, Option.bind_some, journal_in, ref58_in, in_dec, leftS]
    by_cases hs : 1 ≤ s ∧ s ≤ 1048576
    · have hs0 : (s != 0) = true := by simp; omega
      have hg : guardO (s != 0) = some () := by unfold guardO; rw [if_pos hs0]
      simp only [decide_eq_true hs, Bool.not_true, Bool.false_eq_true, if_false, if_pos hs, hg, Option.bind_some]
      have w1 : IntKind.wrap .i64 (y.life - y.used) = y.life - y.used := wrap64 (by omega) (by omega)
      rw [w1]
      unfold leftN
      by_cases hu : y.used ≥ y.life
      · rw [if_pos (show decide (y.used ≥ y.life) = true from decide_eq_true hu), if_pos (show y.used ≥ y.life from hu), if_neg (show ¬ y.life - y.used > 0 by omega)]
        have w2 : IntKind.wrap .i64 (0 + s) = s := by rw [Int.zero_add]; exact wrap64 (by omega) (by omega)
        have w3 : IntKind.wrap .i64 (s - 1) = s - 1 := wrap64 (by omega) (by omega)
        rw [w2, w3, tdiv_small hs.1]
        exact ⟨rfl, rfl⟩
      · have w2 : IntKind.wrap .i64 (y.life - y.used + s) = y.life - y.used + s := wrap64 (by omega) (by omega)
        have w3 : IntKind.wrap .i64 (y.life - y.used + s - 1) = y.life - y.used + s - 1 := wrap64 (by omega) (by omega)
        have hbd := tdiv_bd (a := y.life - y.used + s - 1) (s := s) (by omega) (by omega) hs.1
        have w4 : IntKind.wrap .i64 (Int.tdiv (y.life - y.used + s - 1) s) = Int.tdiv (y.life - y.used + s - 1) s := wrap64 (by omega) (by omega)
        have hd : decide (y.used ≥ y.life) = false := decide_eq_false hu
        rw [if_neg (show ¬ decide (y.used ≥ y.life) = true by rw [hd]; decide), if_neg (show ¬ y.used ≥ y.life from hu), if_pos (show y.life - y.used > 0 by omega), w2, w3, w4]
        exact ⟨rfl, rfl⟩
    · simp only [decide_eq_false hs, Bool.not_false, if_true, if_neg hs]
      exact ⟨trivial, trivial⟩
/-! ### Run -/
/-- what a run comes to -/
def runS (i : Nat) (m : Machine) : List Entry → Machine × Int × Int
  | [] => (m, 0, 0)
  | x :: r => match (journal_Do m x) with
    | some (m', e) => if e = 0 then runS (i + 1) m' r else (⟨[], 0⟩, (i : Int), e)
    | none => (⟨[], 0⟩, 0, 0)
theorem run_loops (l : List Entry) (hs : SmallE l) (hb : l.length ≤ 4096) : ∀ (r pre : List Entry) (m : Machine), l = pre ++ r → Good m →
    journal_Run_loop1 l (fun l3 i5 => some (⟨l3, i5⟩, 0, 0)) (r.length + 1) (pre.length : Int) m.items m.cycles = some (runS pre.length m r) ∧
    ref58_Run_loop1 l (fun l3 i5 => some (⟨l3, i5⟩, 0, 0)) (r.length + 1) (pre.length : Int) m.items m.cycles = some (runS pre.length m r)
  | [], pre, m, e, g => by
    unfold journal_Run_loop1 ref58_Run_loop1
    rw [e, ge_end]
    exact ⟨rfl, rfl⟩
  | x :: r, pre, m, e, g => by
    have hx : x.name.length ≤ 60 := hs x (by rw [e]; simp)
    have hw : IntKind.wrap .i64 ((pre.length : Int) + 1) = ((pre ++ [x]).length : Int) := wrap_mid (x := x) (r := r) (by rw [← e]; omega)
    have hlt : decide ((pre.length : Int) < (l.length : Int)) = true := by rw [e]; exact lt_mid
    have hat : at? l (pre.length : Int) = some x := by rw [e, at?_mid]
    obtain ⟨r1, r2⟩ := right_eq x hx
    obtain ⟨d, d1, d2, d3, d4⟩ := do_eq m x (good_short g) hx
    obtain ⟨dm, de⟩ := d
    have hpl : (pre ++ [x]).length = pre.length + 1 := by simp
    have hm : (⟨m.items, m.cycles⟩ : Machine) = m := rfl
    unfold journal_Run_loop1 ref58_Run_loop1 joinK
    rw [hlt, if_pos rfl, if_pos rfl, hat, hm]
    unfold runS
    rw [d1]
    simp only [Option.bind_some, r1, d2]
    by_cases eR : GoodE x
    · have hr := rcode_zero.2 eR
      obtain ⟨A, o, B, c⟩ := cut_of x.name m.items g.srt
      have hdone := (done_eq g eR c).1
      have hdo := (do_good g eR c).1
      rw [d1] at hdo
      have heq := Option.some.inj hdo
      rw [hr]
      simp only [BEq.rfl, if_true, hdone, Option.bind_some, ← heq]
      by_cases h0 : de = 0
      · subst h0
        have gd := (d4 rfl).2.2
        simp only [bne_self_eq_false, Bool.false_eq_true, if_false, if_true, hw]
        have ih := run_loops l hs hb r (pre ++ [x]) dm (by rw [e, mid_cons]) gd
        rw [hpl] at ih ⊢
        exact ih
      · have b : (de != 0) = true := by simpa using h0
        simp only [b, if_true, if_neg h0]
        exact ⟨trivial, trivial⟩
    · have hr : rcode x ≠ 0 := fun q => eR (rcode_zero.1 q)
      have hb1 : (rcode x == 0) = false := by simpa using hr
      have hb2 : (rcode x != 0) = true := by simpa using hr
      have hde : de = rcode x := by
        unfold journal_Do at d1
        obtain ⟨k, h1, h2, h3⟩ := check_eq m (good_short g)
        have hk := h3.2 g
        subst hk
        rw [h1, r1] at d1
        simp only [Option.bind_some, bne_self_eq_false, Bool.false_eq_true, if_false, hb2, if_true] at d1
        cases d1
        rfl
      subst hde
      simp only [hb1, Bool.false_eq_true, if_false, hb2, if_true, if_neg hr]
      exact ⟨trivial, trivial⟩
theorem good0 : Good ⟨[], 0⟩ := ⟨by decide, by decide, by decide, by simp, List.Pairwise.nil⟩
theorem run_eq2 (l : List Entry) (hs : SmallE l) (hb : l.length ≤ 4096) : journal_Run l = some (runS 0 ⟨[], 0⟩ l) ∧ ref58_Run l = some (runS 0 ⟨[], 0⟩ l) := by
  have h := run_loops l hs hb l [] ⟨[], 0⟩ rfl good0
  have hl : decide ((l.length : Int) > 4096) = false := decide_eq_false (by omega)
  unfold journal_Run ref58_Run joinK
  simp only [hl, Bool.false_eq_true, if_false, fuel0]
  exact h
end Go.Proofs.YtcgmhlakihjbkaaGreatDoor.W.J
set_option linter.unusedVariables false
set_option linter.unusedSimpArgs false
set_option maxHeartbeats 2000000
namespace Go.Proofs.YtcgmhlakihjbkaaGreatDoor.W.J
open Go Go.RowKit
/-! ### numbers -/
/-! ### marks -/
/-! ### texts -/
/-! ### Log -/
end Go.Proofs.YtcgmhlakihjbkaaGreatDoor.W.J
set_option linter.unusedVariables false
set_option linter.unusedSimpArgs false
set_option maxHeartbeats 2000000
namespace Go.Proofs.YtcgmhlakihjbkaaGreatDoor.W.J
open Go Go.RowKit
end Go.Proofs.YtcgmhlakihjbkaaGreatDoor.W.J
set_option linter.unusedVariables false
set_option linter.unusedSimpArgs false
set_option maxHeartbeats 2000000
namespace Go.Proofs.YtcgmhlakihjbkaaGreatDoor.W.J
open Go Go.RowKit
theorem act1 {x : Entry} {cyc : Int} {y : Item} (hk : x.kind = 1) : act x cyc y = if y.faulty = true then (14, cyc, none) else if cyc + x.count > 1048576 ∨ y.used + x.count * x.strokes > 1048576 then (11, cyc, none) else (0, cyc + x.count, some ⟨y.name, y.life, y.used + x.count * x.strokes, y.faults, y.faulty, y.since, y.cycles + x.count⟩) := by
  unfold act
  rw [if_pos hk]
theorem do_cycles {m : Machine} {x : Entry} {A B : List Item} {y : Item} (g : Good m) (e : GoodE x) (hk : x.kind = 1) (c : Cut m.items x.name A (some y) B) (hf : y.faulty = false) (h1 : m.cycles + x.count ≤ 1048576) (h2 : y.used + x.count * x.strokes ≤ 1048576) :
    journal_Do m x = some (⟨A ++ (⟨y.name, y.life, y.used + x.count * x.strokes, y.faults, y.faulty, y.since, y.cycles + x.count⟩ :: B), m.cycles + x.count⟩, 0) := by
  rw [(do_good g e c).1]
  unfold res
  simp only
  rw [if_neg (by omega), act1 hk, hf, if_neg (by decide), if_neg (by omega)]
  rfl
end Go.Proofs.YtcgmhlakihjbkaaGreatDoor.W.J
