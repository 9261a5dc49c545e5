/- The plain laws of sequences, second part: the reference's checks; right sequences; ends. No program in sight. -/
import Derived.Test.YtcgmhlakihjbkaaGreatDoorLawU
set_option linter.unusedVariables false
set_option linter.unusedSimpArgs false
set_option maxHeartbeats 2000000
namespace Go.Proofs.YtcgmhlakihjbkaaGreatDoor.W
open Go Go.RowKit
theorem rst2_loop (s : Sequence) (x : Step) (k : Option Int) (hl : x.strokes.length ≤ 100) : ∀ (r pre : List Stroke), x.strokes = pre ++ r → ref14_steps_loop2 s x k (r.length + 1) (pre.length : Int) = if ∃ y ∈ r, s.actuators ≤ y.actuator then some 6 else k
  | [], pre, e => by
    rw [ref14_steps_loop2, end_mid e]
    simp
  | y :: r, pre, e => by
    obtain ⟨h1, h2, h3, h4, h5⟩ := step_mid e (by omega)
    have ih := rst2_loop s x k hl r (pre ++ [y]) h4
    rw [ref14_steps_loop2, h1, if_pos rfl, h2, Option.bind_some, h3, List.length_cons, ih]
    by_cases hv : s.actuators ≤ y.actuator
    · rw [if_pos (by rw [decide_eq_true_eq]; omega), if_pos ⟨y, by simp, hv⟩]
    · rw [if_neg (by rw [decide_eq_true_eq]; omega)]
      simp [hv]
theorem rst1_loop (s : Sequence) (n0 : 1 ≤ s.actuators) (n1 : s.actuators ≤ 6) (K : List Bool → Option Int) (hl : s.steps.length ≤ 100) : ∀ (r pre : List Step) (l : List Bool), s.steps = pre ++ r → l.length = s.actuators.toNat →
    ref14_steps_loop1 s K (r.length + 1) l (pre.length : Int) = if (runE s.actuators l r).1 ≠ 0 then some (runE s.actuators l r).1 else K (runE s.actuators l r).2
  | [], pre, l, e, hn => by
    rw [ref14_steps_loop1, end_mid e]
    simp [runE]
  | y :: r, pre, l, e, hn => by
    obtain ⟨h1, h2, h3, h4, h5⟩ := step_mid e (by omega)
    rw [ref14_steps_loop1, h1, if_pos rfl, h2]
    unfold joinK
    dsimp only
    rw [Option.bind_some, h3, List.length_cons, rchk_eq, Option.bind_some]
    by_cases hz : fitE s.actuators y l = 0
    · obtain ⟨g, g1, g2⟩ := fitE_zero hz
      have hf := g.few
      have hc : chk y = 0 := chk_zero.2 g
      have hr : runE s.actuators l (y :: r) = runE s.actuators (setL l y.strokes) r := by rw [runE, if_neg (fun q => q hz)]
      rw [if_neg (by simpa using hc), hr, rsuits_eq y l g, Option.bind_some, g2, if_neg (by simp), rafter_eq (by omega) (suits_all g g2) (by omega), Option.bind_some, fuel0]
      have q := rst2_loop s y (ref14_steps_loop1 s K (r.length + 1) (setL l y.strokes) ((pre ++ [y]).length : Int)) (by omega) y.strokes [] rfl
      rw [show (([] : List Stroke).length : Int) = 0 from rfl] at q
      rw [q, if_neg (by rintro ⟨z, hz, k⟩; have := g1 z hz; omega)]
      exact rst1_loop s n0 n1 K hl r (pre ++ [y]) _ h4 (by rw [setL_len, hn])
    · have hr : runE s.actuators l (y :: r) = (fitE s.actuators y l, l) := by rw [runE, if_pos hz]
      rw [hr]
      dsimp only
      rw [if_pos hz]
      by_cases hc : chk y = 0
      · have g := chk_zero.1 hc
        have hf := g.few
        rw [if_neg (by simpa using hc), fuel0]
        have q := rst2_loop s y ((ref13_Suits y l).bind fun r2 => if (!r2) = true then some 14 else (ref13_After y l).bind fun r3 => ref14_steps_loop1 s K (r.length + 1) r3 ((pre ++ [y]).length : Int)) (by omega) y.strokes [] rfl
        rw [show (([] : List Stroke).length : Int) = 0 from rfl] at q
        rw [q]
        have hF : fitE s.actuators y l = if ∃ z ∈ y.strokes, s.actuators ≤ z.actuator then 6 else if suitsB y l = true then 0 else 14 := by
          unfold fitE
          rw [if_neg (fun q => q hc)]
        rw [hF] at hz ⊢
        by_cases hq : ∃ z ∈ y.strokes, s.actuators ≤ z.actuator
        · rw [if_pos hq, if_pos hq]
        · rw [if_neg hq] at hz ⊢
          rw [if_neg hq, rsuits_eq y l g, Option.bind_some]
          cases hs : suitsB y l
          · simp
          · rw [hs] at hz; simp at hz
      · rw [if_pos (by simpa using hc)]
        unfold fitE
        rw [if_pos hc]
theorem rst3_loop (s : Sequence) (l : List Bool) (hn : s.actuators = (l.length : Int)) (hl : l.length ≤ 100) : ∀ (r pre : List Bool), l = pre ++ r → ref14_steps_loop3 s l (some 0) (r.length + 1) (pre.length : Int) = some (if true ∈ r then 9 else 0)
  | [], pre, e => by
    rw [ref14_steps_loop3, hn, end_mid e]
    simp
  | y :: r, pre, e => by
    obtain ⟨h1, h2, h3, h4, h5⟩ := step_mid e (by omega)
    have ih := rst3_loop s l hn hl r (pre ++ [y]) h4
    rw [ref14_steps_loop3, hn, h1, if_pos rfl, h2, Option.bind_some, h3, List.length_cons, ih]
    cases y <;> simp
theorem zeros_len (n : Nat) : (zeros n).length = n := by simp [zeros]
theorem rsteps14 (s : Sequence) (n0 : 1 ≤ s.actuators) (n1 : s.actuators ≤ 6) (hl : s.steps.length ≤ 100) : ref14_steps s =
    some (if (runE s.actuators (zeros s.actuators.toNat) s.steps).1 ≠ 0 then (runE s.actuators (zeros s.actuators.toNat) s.steps).1 else if true ∈ (runE s.actuators (zeros s.actuators.toNat) s.steps).2 then 9 else 0) := by
  unfold ref14_steps guardO joinK
  dsimp only
  rw [if_pos (by simp; omega), Option.bind_some, fuel0]
  refine Eq.trans (rst1_loop s n0 n1 _ hl s.steps [] (zeros s.actuators.toNat) rfl (zeros_len _)) ?_
  by_cases hz : (runE s.actuators (zeros s.actuators.toNat) s.steps).1 ≠ 0
  · rw [if_pos hz, if_pos hz]
  · rw [if_neg hz, if_neg hz]
    have hlen := runE_len (n := s.actuators) s.steps (zeros s.actuators.toNat)
    rw [zeros_len] at hlen
    have q := rst3_loop s (runE s.actuators (zeros s.actuators.toNat) s.steps).2 (by omega) (by omega) _ [] rfl
    rw [hlen] at q
    rw [show Int.toNat (s.actuators - 0) = s.actuators.toNat by simp]
    exact q
theorem way_any (n : Int) : ∀ r : List Stroke, (wayS n r != 0) = r.any (·.actuator == n)
  | [] => rfl
  | y :: r => by
    rw [wayS, List.any_cons, ← way_any n r]
    by_cases h : y.actuator = n
    · rw [if_pos h]; cases y.out <;> simp [h]
    · rw [if_neg h]; simp [h]
theorem rmoves_loop (s : Sequence) (a : Int) (hl : s.steps.length ≤ 1000) (hs : ∀ x ∈ s.steps, x.strokes.length ≤ 100) : ∀ (r pre : List Step), s.steps = pre ++ r → ref14_moves_loop1 s a (some false) (r.length + 1) (pre.length : Int) = some ((flat r).any (·.actuator == a))
  | [], pre, e => by
    rw [ref14_moves_loop1, end_mid e]
    rfl
  | y :: r, pre, e => by
    obtain ⟨h1, h2, h3, h4, h5⟩ := step_mid e (by omega)
    have ih := rmoves_loop s a hl hs r (pre ++ [y]) h4
    rw [ref14_moves_loop1, h1, if_pos rfl, h2, Option.bind_some, rway_eq _ _ (hs y (by rw [e]; simp)), Option.bind_some, h3, List.length_cons, ih, way_any, flat_cons, List.any_append]
    cases (y.strokes.any fun x => x.actuator == a) <;> simp
theorem rmoves_eq (s : Sequence) (a : Int) (hl : s.steps.length ≤ 1000) (hs : ∀ x ∈ s.steps, x.strokes.length ≤ 100) : ref14_moves s a = some ((flat s.steps).any (·.actuator == a)) := by
  unfold ref14_moves joinK
  dsimp only
  rw [fuel0]
  exact rmoves_loop s a hl hs s.steps [] rfl
theorem rchkm_loop (s : Sequence) (hl : s.steps.length ≤ 1000) (hs : ∀ x ∈ s.steps, x.strokes.length ≤ 100) (n1 : s.actuators ≤ 6) : ∀ (m i : Nat), i + m = s.actuators.toNat →
    ref14_Check_loop1 s (some 0) (m + 1) (i : Int) = some (if ((List.range' i m).all fun j => (flat s.steps).any fun y => y.actuator == (j : Int)) = true then 0 else 13)
  | 0, i, h => by
    rw [ref14_Check_loop1, if_neg (by rw [decide_eq_true_eq]; omega)]
    rfl
  | m + 1, i, h => by
    have ih := rchkm_loop s hl hs n1 m (i + 1) (by omega)
    rw [ref14_Check_loop1, if_pos (by rw [decide_eq_true_eq]; omega), rmoves_eq s _ hl hs, Option.bind_some, wrap64 (by omega) (by omega), show (i : Int) + 1 = ((i + 1 : Nat) : Int) by omega, ih, List.range'_succ, List.all_cons]
    cases ((flat s.steps).any fun y => y.actuator == (i : Int))
    · simp
    · simp only [Bool.not_true, Bool.false_eq_true, if_false, Bool.true_and]
theorem runE_good {n : Int} : ∀ (r : List Step) (l : List Bool), (runE n l r).1 = 0 → ∀ x ∈ r, GoodS x ∧ ∀ y ∈ x.strokes, y.actuator < n
  | [], l, _, x, hx => by cases hx
  | y :: r, l, h, x, hx => by
    rw [runE] at h
    split at h
    · rename_i q; exact absurd h q
    · rename_i q
      rcases List.mem_cons.1 hx with rfl | hx
      · obtain ⟨g, g1, _⟩ := fitE_zero (Decidable.not_not.1 q)
        exact ⟨g, g1⟩
      · exact runE_good r _ h x hx
theorem rcheck14 (s : Sequence) : ref14_Check s = some (checkE s) := by
  unfold ref14_Check checkE
  by_cases hn : s.actuators < 1 ∨ 6 < s.actuators
  · rw [if_pos (by simpa using hn), if_pos hn]
  rw [if_neg (by simpa using hn), if_neg hn]
  by_cases h0 : s.steps.length = 0
  · rw [if_pos (by simpa using h0), if_pos h0]
  rw [if_neg (by simpa using h0), if_neg h0]
  by_cases h6 : 64 < s.steps.length
  · rw [if_pos (by simpa using by omega), if_pos h6]
  rw [if_neg (by simpa using by omega), if_neg h6, rsteps14 s (by omega) (by omega) (by omega), Option.bind_some]
  by_cases he : (runE s.actuators (zeros s.actuators.toNat) s.steps).1 = 0
  · have hne : ¬ (runE s.actuators (zeros s.actuators.toNat) s.steps).1 ≠ 0 := fun q => q he
    rw [if_neg hne, if_neg hne]
    by_cases hq : true ∈ (runE s.actuators (zeros s.actuators.toNat) s.steps).2
    · rw [if_pos hq, if_pos hq]; rfl
    · rw [if_neg hq, if_neg hq, if_neg (by simp)]
      unfold joinK
      dsimp only
      have q := rchkm_loop s (by omega) (fun x hx => by have := (runE_good _ _ he x hx).1.few; omega) (by omega) s.actuators.toNat 0 (by omega)
      rw [show Int.toNat (s.actuators - 0) = s.actuators.toNat by simp]
      refine Eq.trans q ?_
      rw [← List.range_eq_range']
      rfl
  · have hne : (runE s.actuators (zeros s.actuators.toNat) s.steps).1 ≠ 0 := he
    rw [if_pos hne, if_pos hne, if_pos (by simpa using he)]
/-! ### right sequences -/
def behL (l : List Bool) (r : List Step) : List Bool := r.foldl (fun l x => setL l x.strokes) l
theorem runE_beh {n : Int} : ∀ (r : List Step) (l : List Bool), (runE n l r).1 = 0 → (runE n l r).2 = behL l r ∧ ∀ pre x q, r = pre ++ x :: q → fitE n x (behL l pre) = 0
  | [], l, _ => ⟨rfl, fun pre x q e => by simp at e⟩
  | y :: r, l, h => by
    by_cases hz : fitE n y l = 0
    · have hr : runE n l (y :: r) = runE n (setL l y.strokes) r := by rw [runE, if_neg (fun q => q hz)]
      rw [hr] at h ⊢
      obtain ⟨h1, h2⟩ := runE_beh r _ h
      refine ⟨h1, fun pre x q e => ?_⟩
      cases pre with
      | nil => obtain ⟨rfl, _⟩ := List.cons.inj e; exact hz
      | cons z pre =>
        obtain ⟨rfl, e2⟩ := List.cons.inj e
        exact h2 pre x q e2
    · rw [runE, if_pos hz] at h
      exact absurd h hz
structure RightS (s : Sequence) : Prop where
  n0 : 1 ≤ s.actuators
  n1 : s.actuators ≤ 6
  l0 : s.steps ≠ []
  l1 : s.steps.length ≤ 64
  good : ∀ x ∈ s.steps, GoodS x ∧ ∀ y ∈ x.strokes, y.actuator < s.actuators
  fit : ∀ pre x q, s.steps = pre ++ x :: q → suitsB x (behL (zeros s.actuators.toNat) pre) = true
  last : true ∉ behL (zeros s.actuators.toNat) s.steps
  all : allMove s.actuators (flat s.steps) = true
theorem checkE_zero {s : Sequence} (h : checkE s = 0) : RightS s := by
  unfold checkE at h
  split at h
  · cases h
  · split at h
    · cases h
    · split at h
      · cases h
      · split at h
        · rename_i q; exact absurd h q
        · rename_i a b c d
          have d := Decidable.not_not.1 d
          split at h
          · cases h
          · split at h
            · rename_i e f
              obtain ⟨h1, h2⟩ := runE_beh _ _ d
              rw [h1] at e
              exact ⟨by omega, by omega, fun q => b (by rw [q]; rfl), by omega, runE_good _ _ d, fun pre x q k => (fitE_zero (h2 pre x q k)).2.2, e, f⟩
            · cases h
theorem right_lt {s : Sequence} (R : RightS s) : ∀ x ∈ s.steps, x.strokes.length ≤ 6 ∧ ∀ y ∈ x.strokes, 0 ≤ y.actuator ∧ y.actuator < 6 := fun x hx => by
  obtain ⟨g, h⟩ := R.good x hx
  have := R.n1
  exact ⟨g.few, fun y hy => ⟨(asc_mem g.asc y hy).1, by have := h y hy; omega⟩⟩
end Go.Proofs.YtcgmhlakihjbkaaGreatDoor.W
