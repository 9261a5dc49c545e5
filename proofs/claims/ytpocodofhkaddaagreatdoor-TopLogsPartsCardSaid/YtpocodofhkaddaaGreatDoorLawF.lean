/- The plain laws of the journal, sixth part: Due, Left, Run and Log; the laws JournalAsks and JournalRuns. -/
import Derived.Test.YtpocodofhkaddaaGreatDoorLawE
import Derived.Test.YtpocodofhkaddaaGreatDoorLibN
set_option linter.unusedVariables false
set_option linter.unusedSimpArgs false
set_option maxHeartbeats 2000000
namespace Go.Proofs.YtpocodofhkaddaaGreatDoor.W
open Go Go.RowKit
/-! ### Run -/
theorem res_len {x : Entry} {cyc : Int} {A B : List Item} {o : Option Item} : (res x cyc A o B).1.items.length ≤ (A ++ (o.toList ++ B)).length + 1 := by
  unfold res fin
  cases o with
  | none =>
    simp only
    split
    · split <;> simp
      omega
    · simp
  | some y =>
    simp only
    split
    · simp
    · split
      · have : (act x cyc y).2.2.toList.length ≤ 1 := by cases (act x cyc y).2.2 <;> simp
        simp
        omega
      · simp
/-- what a run comes to -/
def runS (i : Nat) (m : Machine) : List Entry → Machine × Int × Int
  | [] => (m, 0, 0)
  | x :: r => match (journal_Do m x) with
    | some (m', e) => if e = 0 then runS (i + 1) m' r else (⟨[], 0⟩, (i : Int), e)
    | none => (⟨[], 0⟩, 0, 0)
theorem run_loops (l : List Entry) (hs : SmallE l) (hb : l.length ≤ 4096) : ∀ (r pre : List Entry) (m : Machine), l = pre ++ r → Good m →
    journal_Run_loop1 l (fun l3 i5 => some (⟨l3, i5⟩, 0, 0)) (r.length + 1) (pre.length : Int) m.items m.cycles = some (runS pre.length m r) ∧
    ref58_Run_loop1 l (fun l3 i5 => some (⟨l3, i5⟩, 0, 0)) (r.length + 1) (pre.length : Int) m.items m.cycles = some (runS pre.length m r)
  | [], pre, m, e, g => by
    unfold journal_Run_loop1 ref58_Run_loop1
    rw [e, ge_end]
    exact ⟨rfl, rfl⟩
  | x :: r, pre, m, e, g => by
    have hx : x.name.length ≤ 60 := hs x (by rw [e]; simp)
    have hw : IntKind.wrap .i64 ((pre.length : Int) + 1) = ((pre ++ [x]).length : Int) := wrap_mid (x := x) (r := r) (by rw [← e]; omega)
    have hlt : decide ((pre.length : Int) < (l.length : Int)) = true := by rw [e]; exact lt_mid
    have hat : at? l (pre.length : Int) = some x := by rw [e, at?_mid]
    obtain ⟨r1, r2⟩ := right_eq x hx
    obtain ⟨d, d1, d2, d3, d4⟩ := do_eq m x (good_short g) hx
    obtain ⟨dm, de⟩ := d
    have hpl : (pre ++ [x]).length = pre.length + 1 := by simp
    have hm : (⟨m.items, m.cycles⟩ : Machine) = m := rfl
    unfold journal_Run_loop1 ref58_Run_loop1 joinK
    rw [hlt, if_pos rfl, if_pos rfl, hat, hm]
    unfold runS
    rw [d1]
    simp only [Option.bind_some, r1, d2]
    by_cases eR : GoodE x
    · have hr := rcode_zero.2 eR
      obtain ⟨A, o, B, c⟩ := cut_of x.name m.items g.srt
      have hdone := (done_eq g eR c).1
      have hdo := (do_good g eR c).1
      rw [d1] at hdo
      have heq := Option.some.inj hdo
      rw [hr]
      simp only [BEq.rfl, if_true, hdone, Option.bind_some, ← heq]
      by_cases h0 : de = 0
      · subst h0
        have gd := (d4 rfl).2.2
        simp only [bne_self_eq_false, Bool.false_eq_true, if_false, if_true, hw]
        have ih := run_loops l hs hb r (pre ++ [x]) dm (by rw [e, mid_cons]) gd
        rw [hpl] at ih ⊢
        exact ih
      · have b : (de != 0) = true := by simpa using h0
        simp only [b, if_true, if_neg h0]
        exact ⟨trivial, trivial⟩
    · have hr : rcode x ≠ 0 := fun q => eR (rcode_zero.1 q)
      have hb1 : (rcode x == 0) = false := by simpa using hr
      have hb2 : (rcode x != 0) = true := by simpa using hr
      have hde : de = rcode x := by
        unfold journal_Do at d1
        obtain ⟨k, h1, h2, h3⟩ := check_eq m (good_short g)
        have hk := h3.2 g
        subst hk
        rw [h1, r1] at d1
        simp only [Option.bind_some, bne_self_eq_false, Bool.false_eq_true, if_false, hb2, if_true] at d1
        cases d1
        rfl
      subst hde
      simp only [hb1, Bool.false_eq_true, if_false, hb2, if_true, if_neg hr]
      exact ⟨trivial, trivial⟩
theorem good0 : Good ⟨[], 0⟩ := ⟨by decide, by decide, by decide, by simp, List.Pairwise.nil⟩
theorem run_eq2 (l : List Entry) (hs : SmallE l) (hb : l.length ≤ 4096) : journal_Run l = some (runS 0 ⟨[], 0⟩ l) ∧ ref58_Run l = some (runS 0 ⟨[], 0⟩ l) := by
  have h := run_loops l hs hb l [] ⟨[], 0⟩ rfl good0
  have hl : decide ((l.length : Int) > 4096) = false := decide_eq_false (by omega)
  unfold journal_Run ref58_Run joinK
  simp only [hl, Bool.false_eq_true, if_false, fuel0]
  exact h
theorem runS_good : ∀ (l : List Entry) (i : Nat) (m : Machine), SmallE l → Good m → (runS i m l).1.items.length ≤ 256 ∧ ((runS i m l).2.2 = 0 → Good (runS i m l).1 ∧ (runS i m l).1.items.length ≤ m.items.length + l.length ∧ ∀ x ∈ l, GoodE x)
  | [], i, m, hs, g => ⟨g.len, fun _ => ⟨g, by show m.items.length ≤ _; omega, by simp⟩⟩
  | x :: r, i, m, hs, g => by
    obtain ⟨d, d1, d2, d3, d4⟩ := do_eq m x (good_short g) (hs x (List.mem_cons_self ..))
    obtain ⟨dm, de⟩ := d
    unfold runS
    rw [d1]
    simp only
    by_cases h0 : de = 0
    · rw [if_pos h0]
      obtain ⟨_, eR, gd⟩ := d4 h0
      obtain ⟨i1, i2⟩ := runS_good r (i + 1) dm (fun y hy => hs y (List.mem_cons_of_mem _ hy)) gd
      refine ⟨i1, fun h => ?_⟩
      obtain ⟨i3, i4, i5⟩ := i2 h
      refine ⟨i3, ?_, fun y hy => ?_⟩
      · obtain ⟨A, o, B, c⟩ := cut_of x.name m.items g.srt
        have hdo := (do_good g eR c).1
        rw [d1] at hdo
        have heq := Option.some.inj hdo
        have := res_len (x := x) (cyc := m.cycles) (A := A) (B := B) (o := o)
        rw [← heq, ← c.eq] at this
        simp only [List.length_cons]
        have : dm.items.length ≤ m.items.length + 1 := this
        omega
      · rcases List.mem_cons.1 hy with rfl | hy
        · exact eR
        · exact i5 y hy
    · rw [if_neg h0]
      exact ⟨by simp, fun h => absurd h h0⟩
end Go.Proofs.YtpocodofhkaddaaGreatDoor.W
