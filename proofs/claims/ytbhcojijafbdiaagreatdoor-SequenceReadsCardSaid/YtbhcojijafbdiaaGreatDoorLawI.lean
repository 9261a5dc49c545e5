/- The plain laws of sequences, second part: the reference's checks; right sequences; ends. No program in sight. -/
import Derived.Test.YtbhcojijafbdiaaGreatDoorLawH
set_option linter.unusedVariables false
set_option linter.unusedSimpArgs false
set_option maxHeartbeats 2000000
namespace Go.Proofs.YtbhcojijafbdiaaGreatDoor.W
open Go Go.RowKit
theorem rst2_loop (s : Sequence) (x : Step) (k : Option Int) (hl : x.strokes.length ≤ 100) : ∀ (r pre : List Stroke), x.strokes = pre ++ r → ref14_steps_loop2 s x k (r.length + 1) (pre.length : Int) = if ∃ y ∈ r, s.actuators ≤ y.actuator then some 6 else k
  | [], pre, e => by
    rw [ref14_steps_loop2, end_mid e]
    simp
  | y :: r, pre, e => by
    obtain ⟨h1, h2, h3, h4, h5⟩ := step_mid e (by omega)
    have ih := rst2_loop s x k hl r (pre ++ [y]) h4
    rw [ref14_steps_loop2, h1, if_pos rfl, h2, Option.bind_some, h3, List.length_cons, ih]
    by_cases hv : s.actuators ≤ y.actuator
    · rw [if_pos (by rw [decide_eq_true_eq]; omega), if_pos ⟨y, by simp, hv⟩]
    · rw [if_neg (by rw [decide_eq_true_eq]; omega)]
      simp [hv]
theorem rst1_loop (s : Sequence) (n0 : 1 ≤ s.actuators) (n1 : s.actuators ≤ 6) (K : List Bool → Option Int) (hl : s.steps.length ≤ 100) : ∀ (r pre : List Step) (l : List Bool), s.steps = pre ++ r → l.length = s.actuators.toNat →
    ref14_steps_loop1 s K (r.length + 1) l (pre.length : Int) = if (runE s.actuators l r).1 ≠ 0 then some (runE s.actuators l r).1 else K (runE s.actuators l r).2
  | [], pre, l, e, hn => by
    rw [ref14_steps_loop1, end_mid e]
    simp [runE]
  | y :: r, pre, l, e, hn => by
    obtain ⟨h1, h2, h3, h4, h5⟩ := step_mid e (by omega)
    rw [ref14_steps_loop1, h1, if_pos rfl, h2]
    unfold joinK
    dsimp only
    rw [Option.bind_some, h3, List.length_cons, rchk_eq, Option.bind_some]
    by_cases hz : fitE s.actuators y l = 0
    · obtain ⟨g, g1, g2⟩ := fitE_zero hz
      have hf := g.few
      have hc : chk y = 0 := chk_zero.2 g
      have hr : runE s.actuators l (y :: r) = runE s.actuators (setL l y.strokes) r := by rw [runE, if_neg (fun q => q hz)]
      rw [if_neg (by simpa using hc), hr, rsuits_eq y l g, Option.bind_some, g2, if_neg (by simp), rafter_eq (by omega) (suits_all g g2) (by omega), Option.bind_some, fuel0]
      have q := rst2_loop s y (ref14_steps_loop1 s K (r.length + 1) (setL l y.strokes) ((pre ++ [y]).length : Int)) (by omega) y.strokes [] rfl
      rw [show (([] : List Stroke).length : Int) = 0 from rfl] at q
      rw [q, if_neg (by rintro ⟨z, hz, k⟩; have := g1 z hz; omega)]
      exact rst1_loop s n0 n1 K hl r (pre ++ [y]) _ h4 (by rw [setL_len, hn])
    · have hr : runE s.actuators l (y :: r) = (fitE s.actuators y l, l) := by rw [runE, if_pos hz]
      rw [hr]
      dsimp only
      rw [if_pos hz]
      by_cases hc : chk y = 0
      · have g := chk_zero.1 hc
        have hf := g.few
        rw [if_neg (by simpa using hc), fuel0]
        have q := rst2_loop s y ((ref13_Suits y l).bind fun r2 => if (!r2) = true then some 14 else (ref13_After y l).bind fun r3 => ref14_steps_loop1 s K (r.length + 1) r3 ((pre ++ [y]).length : Int)) (by omega) y.strokes [] rfl
        rw [show (([] : List Stroke).length : Int) = 0 from rfl] at q
        rw [q]
        have hF : fitE s.actuators y l = if ∃ z ∈ y.strokes, s.actuators ≤ z.actuator then 6 else if suitsB y l = true then 0 else 14 := by
          unfold fitE
          rw [if_neg (fun q => q hc)]
        rw [hF] at hz ⊢
        by_cases hq : ∃ z ∈ y.strokes, s.actuators ≤ z.actuator
        · rw [if_pos hq, if_pos hq]
        · rw [if_neg hq] at hz ⊢
          rw [if_neg hq, rsuits_eq y l g, Option.bind_some]
          cases hs : suitsB y l
          · simp
          · rw [hs] at hz; simp at hz
      · rw [if_pos (by simpa using hc)]
        unfold fitE
        rw [if_pos hc]
theorem rst3_loop (s : Sequence) (l : List Bool) (hn : s.actuators = (l.length : Int)) (hl : l.length ≤ 100) : ∀ (r pre : List Bool), l = pre ++ r → ref14_steps_loop3 s l (some 0) (r.length + 1) (pre.length : Int) = some (if true ∈ r then 9 else 0)
  | [], pre, e => by
    rw [ref14_steps_loop3, hn, end_mid e]
    simp
  | y :: r, pre, e => by
    obtain ⟨h1, h2, h3, h4, h5⟩ := step_mid e (by omega)
    have ih := rst3_loop s l hn hl r (pre ++ [y]) h4
    rw [ref14_steps_loop3, hn, h1, if_pos rfl, h2, Option.bind_some, h3, List.length_cons, ih]
    cases y <;> simp
theorem zeros_len (n : Nat) : (zeros n).length = n := by simp [zeros]
theorem rsteps14 (s : Sequence) (n0 : 1 ≤ s.actuators) (n1 : s.actuators ≤ 6) (hl : s.steps.length ≤ 100) : ref14_steps s =
    some (if (runE s.actuators (zeros s.actuators.toNat) s.steps).1 ≠ 0 then (runE s.actuators (zeros s.actuators.toNat) s.steps).1 else if true ∈ (runE s.actuators (zeros s.actuators.toNat) s.steps).2 then 9 else 0) := by
  unfold ref14_steps guardO joinK
  dsimp only
  rw [if_pos (by simp; omega), Option.bind_some, fuel0]
  refine Eq.trans (rst1_loop s n0 n1 _ hl s.steps [] (zeros s.actuators.toNat) rfl (zeros_len _)) ?_
  by_cases hz : (runE s.actuators (zeros s.actuators.toNat) s.steps).1 ≠ 0
  · rw [if_pos hz, if_pos hz]
  · rw [if_neg hz, if_neg hz]
    have hlen := runE_len (n := s.actuators) s.steps (zeros s.actuators.toNat)
    rw [zeros_len] at hlen
    have q := rst3_loop s (runE s.actuators (zeros s.actuators.toNat) s.steps).2 (by omega) (by omega) _ [] rfl
    rw [hlen] at q
    rw [show Int.toNat (s.actuators - 0) = s.actuators.toNat by simp]
    exact q
theorem way_any (n : Int) : ∀ r : List Stroke, (wayS n r != 0) = r.any (·.actuator == n)
  | [] => rfl
  | y :: r => by
    rw [wayS, List.any_cons, ← way_any n r]
    by_cases h : y.actuator = n
    · rw [if_pos h]; cases y.out <;> simp [h]
    · rw [if_neg h]; simp [h]
theorem rmoves_loop (s : Sequence) (a : Int) (hl : s.steps.length ≤ 1000) (hs : ∀ x ∈ s.steps, x.strokes.length ≤ 100) : ∀ (r pre : List Step), s.steps = pre ++ r → ref14_moves_loop1 s a (some false) (r.length + 1) (pre.length : Int) = some ((flat r).any (·.actuator == a))
  | [], pre, e => by
    rw [ref14_moves_loop1, end_mid e]
    rfl
  | y :: r, pre, e => by
    obtain ⟨h1, h2, h3, h4, h5⟩ := step_mid e (by omega)
    have ih := rmoves_loop s a hl hs r (pre ++ [y]) h4
    rw [ref14_moves_loop1, h1, if_pos rfl, h2, Option.bind_some, rway_eq _ _ (hs y (by rw [e]; simp)), Option.bind_some, h3, List.length_cons, ih, way_any, flat_cons, List.any_append]
    cases (y.strokes.any fun x => x.actuator == a) <;> simp
theorem rmoves_eq (s : Sequence) (a : Int) (hl : s.steps.length ≤ 1000) (hs : ∀ x ∈ s.steps, x.strokes.length ≤ 100) : ref14_moves s a = some ((flat s.steps).any (·.actuator == a)) := by
  unfold ref14_moves joinK
  dsimp only
  rw [fuel0]
  exact rmoves_loop s a hl hs s.steps [] rfl
theorem rchkm_loop (s : Sequence) (hl : s.steps.length ≤ 1000) (hs : ∀ x ∈ s.steps, x.strokes.length ≤ 100) (n1 : s.actuators ≤ 6) : ∀ (m i : Nat), i + m = s.actuators.toNat →
    ref14_Check_loop1 s (some 0) (m + 1) (i : Int) = some (if ((List.range' i m).all fun j => (flat s.steps).any fun y => y.actuator == (j : Int)) = true then 0 else 13)
  | 0, i, h => by
    rw [ref14_Check_loop1, if_neg (by rw [decide_eq_true_eq]; omega)]
    rfl
  | m + 1, i, h => by
    have ih := rchkm_loop s hl hs n1 m (i + 1) (by omega)
    rw [ref14_Check_loop1, if_pos (by rw [decide_eq_true_eq]; omega), rmoves_eq s _ hl hs, Option.bind_some, wrap64 (by omega) (by omega), show (i : Int) + 1 = ((i + 1 : Nat) : Int) by omega, ih, List.range'_succ, List.all_cons]
    cases ((flat s.steps).any fun y => y.actuator == (i : Int))
    · simp
    · simp only [Bool.not_true, Bool.false_eq_true, if_false, Bool.true_and]
theorem runE_good {n : Int} : ∀ (r : List Step) (l : List Bool), (runE n l r).1 = 0 → ∀ x ∈ r, GoodS x ∧ ∀ y ∈ x.strokes, y.actuator < n
  | [], l, _, x, hx => by cases hx
  | y :: r, l, h, x, hx => by
    rw [runE] at h
    split at h
    · rename_i q; exact absurd h q
    · rename_i q
      rcases List.mem_cons.1 hx with rfl | hx
      · obtain ⟨g, g1, _⟩ := fitE_zero (Decidable.not_not.1 q)
        exact ⟨g, g1⟩
      · exact runE_good r _ h x hx
theorem rcheck14 (s : Sequence) : ref14_Check s = some (checkE s) := by
  unfold ref14_Check checkE
  by_cases hn : s.actuators < 1 ∨ 6 < s.actuators
  · rw [if_pos (by simpa using hn), if_pos hn]
  rw [if_neg (by simpa using hn), if_neg hn]
  by_cases h0 : s.steps.length = 0
  · rw [if_pos (by simpa using h0), if_pos h0]
  rw [if_neg (by simpa using h0), if_neg h0]
  by_cases h6 : 64 < s.steps.length
  · rw [if_pos (by simpa using by omega), if_pos h6]
  rw [if_neg (by simpa using by omega), if_neg h6, rsteps14 s (by omega) (by omega) (by omega), Option.bind_some]
  by_cases he : (runE s.actuators (zeros s.actuators.toNat) s.steps).1 = 0
  · have hne : ¬ (runE s.actuators (zeros s.actuators.toNat) s.steps).1 ≠ 0 := fun q => q he
    rw [if_neg hne, if_neg hne]
    by_cases hq : true ∈ (runE s.actuators (zeros s.actuators.toNat) s.steps).2
    · rw [if_pos hq, if_pos hq]; rfl
    · rw [if_neg hq, if_neg hq, if_neg (by simp)]
      unfold joinK
      dsimp only
      have q := rchkm_loop s (by omega) (fun x hx => by have := (runE_good _ _ he x hx).1.few; omega) (by omega) s.actuators.toNat 0 (by omega)
      rw [show Int.toNat (s.actuators - 0) = s.actuators.toNat by simp]
      refine Eq.trans q ?_
      rw [← List.range_eq_range']
      rfl
  · have hne : (runE s.actuators (zeros s.actuators.toNat) s.steps).1 ≠ 0 := he
    rw [if_pos hne, if_pos hne, if_pos (by simpa using he)]
/-! ### right sequences -/
def behL (l : List Bool) (r : List Step) : List Bool := r.foldl (fun l x => setL l x.strokes) l
theorem behL_cons (l : List Bool) (x : Step) (r : List Step) : behL l (x :: r) = behL (setL l x.strokes) r := rfl
theorem behL_app (l : List Bool) (a b : List Step) : behL l (a ++ b) = behL (behL l a) b := by simp [behL]
theorem behL_len : ∀ (r : List Step) (l : List Bool), (behL l r).length = l.length
  | [], l => rfl
  | x :: r, l => by rw [behL_cons, behL_len r, setL_len]
theorem runE_beh {n : Int} : ∀ (r : List Step) (l : List Bool), (runE n l r).1 = 0 → (runE n l r).2 = behL l r ∧ ∀ pre x q, r = pre ++ x :: q → fitE n x (behL l pre) = 0
  | [], l, _ => ⟨rfl, fun pre x q e => by simp at e⟩
  | y :: r, l, h => by
    by_cases hz : fitE n y l = 0
    · have hr : runE n l (y :: r) = runE n (setL l y.strokes) r := by rw [runE, if_neg (fun q => q hz)]
      rw [hr] at h ⊢
      obtain ⟨h1, h2⟩ := runE_beh r _ h
      refine ⟨h1, fun pre x q e => ?_⟩
      cases pre with
      | nil => obtain ⟨rfl, _⟩ := List.cons.inj e; exact hz
      | cons z pre =>
        obtain ⟨rfl, e2⟩ := List.cons.inj e
        exact h2 pre x q e2
    · rw [runE, if_pos hz] at h
      exact absurd h hz
structure RightS (s : Sequence) : Prop where
  n0 : 1 ≤ s.actuators
  n1 : s.actuators ≤ 6
  l0 : s.steps ≠ []
  l1 : s.steps.length ≤ 64
  good : ∀ x ∈ s.steps, GoodS x ∧ ∀ y ∈ x.strokes, y.actuator < s.actuators
  fit : ∀ pre x q, s.steps = pre ++ x :: q → suitsB x (behL (zeros s.actuators.toNat) pre) = true
  last : true ∉ behL (zeros s.actuators.toNat) s.steps
  all : allMove s.actuators (flat s.steps) = true
theorem checkE_zero {s : Sequence} (h : checkE s = 0) : RightS s := by
  unfold checkE at h
  split at h
  · cases h
  · split at h
    · cases h
    · split at h
      · cases h
      · split at h
        · rename_i q; exact absurd h q
        · rename_i a b c d
          have d := Decidable.not_not.1 d
          split at h
          · cases h
          · split at h
            · rename_i e f
              obtain ⟨h1, h2⟩ := runE_beh _ _ d
              rw [h1] at e
              exact ⟨by omega, by omega, fun q => b (by rw [q]; rfl), by omega, runE_good _ _ d, fun pre x q k => (fitE_zero (h2 pre x q k)).2.2, e, f⟩
            · cases h
theorem beh_of_suits {n : Int} {x : Step} {l : List Bool} (g : GoodS x) (h : suitsB x l = true) (hl : l.length ≤ 6) : ref13_After x l = some (setL l x.strokes) := by
  have := g.few
  exact rafter_eq (by omega) (suits_all g h) (by omega)
theorem behind_rloop (s : Sequence) (R : RightS s) (k : Nat) (hk : k ≤ s.steps.length) : ∀ (m i : Nat), i + m = k → ref14_Behind_loop1 s (k : Int) (fun l2 => some l2) (m + 1) (behL (zeros s.actuators.toNat) (s.steps.take i)) (i : Int) = some (behL (zeros s.actuators.toNat) (s.steps.take k))
  | 0, i, h => by
    rw [ref14_Behind_loop1, if_neg (by rw [decide_eq_true_eq]; omega), show i = k by omega]
  | m + 1, i, h => by
    have hi : i < s.steps.length := by omega
    have hl1 := R.l1
    have ih := behind_rloop s R k hk m (i + 1) (by omega)
    have e : s.steps = s.steps.take i ++ s.steps[i] :: s.steps.drop (i + 1) := by rw [← List.drop_eq_getElem_cons hi, List.take_append_drop]
    have hat : at? s.steps (i : Int) = some s.steps[i] := by unfold at?; rw [if_pos (by omega), show ((i : Nat) : Int).toNat = i by omega, List.getElem?_eq_getElem hi]
    have hg := R.good s.steps[i] (List.getElem_mem hi)
    have n1 := R.n1
    have hs := R.fit _ _ _ e
    rw [ref14_Behind_loop1, if_pos (by rw [decide_eq_true_eq]; omega), hat, Option.bind_some, beh_of_suits (n := 0) hg.1 hs (by rw [behL_len, zeros_len]; omega), Option.bind_some, wrap64 (by omega) (by omega), show (i : Int) + 1 = ((i + 1 : Nat) : Int) by omega]
    rw [← ih, List.take_succ_eq_append_getElem hi, behL_app]
    rfl
/-- the ends behind the first k steps -/
def beh (s : Sequence) (k : Nat) : List Bool := behL (zeros s.actuators.toNat) (s.steps.take k)
theorem beh_len (s : Sequence) (k : Nat) : (beh s k).length = s.actuators.toNat := by rw [beh, behL_len, zeros_len]
theorem rbehind_eq (s : Sequence) (R : RightS s) (k : Nat) (hk : k ≤ s.steps.length) : ref14_Behind s (k : Int) = some (beh s k) := by
  have n0 := R.n0
  have n1 := R.n1
  unfold ref14_Behind guardO joinK
  dsimp only
  rw [if_pos (by simp; omega), Option.bind_some, show Int.toNat ((k : Int) - 0) = k by omega]
  exact behind_rloop s R k hk k 0 (by omega)
theorem right_lt {s : Sequence} (R : RightS s) : ∀ x ∈ s.steps, x.strokes.length ≤ 6 ∧ ∀ y ∈ x.strokes, 0 ≤ y.actuator ∧ y.actuator < 6 := fun x hx => by
  obtain ⟨g, h⟩ := R.good x hx
  have := R.n1
  exact ⟨g.few, fun y hy => ⟨(asc_mem g.asc y hy).1, by have := h y hy; omega⟩⟩
def endsR (s : Sequence) (k : Int) : List Bool × Int := if checkE s ≠ 0 then ([], checkE s) else if 0 ≤ k ∧ k ≤ s.steps.length then (beh s k.toNat, 0) else ([], 2)
theorem part_take {n : Int} {l z : List Bool} (h : l.length = n.toNat) (h0 : 0 ≤ n) : part? (l ++ z) 0 n = some l := by
  unfold part?
  rw [if_pos ⟨by omega, h0, by simp; omega⟩]
  simp [← h]
theorem lends_loop (s : Sequence) (R : RightS s) (k : Int) (K : Bool → Bool → Bool → Bool → Bool → Bool → Option (List Bool × Int))
    (hK : K = fun c7 c8 c9 c10 c11 c12 => if ((s.steps.length : Int) == k) = true then (part? ([c7, c8, c9, c10, c11, c12] : List Bool) 0 s.actuators).bind fun l4 => (appO 1 ([] : List Bool) l4).bind fun _ => some (l4, 0) else some ([], 2)) :
    ∀ (r pre : List Step) (x : Ends6), s.steps = pre ++ r → (∃ z, x.l = behL (zeros s.actuators.toNat) pre ++ z) → (k < 0 ∨ (pre.length : Int) ≤ k) →
    sequence_Ends_loop1 s k K (r.length + 1) (pre.length : Int) x.a0 x.a1 x.a2 x.a3 x.a4 x.a5 = some (if 0 ≤ k ∧ k ≤ s.steps.length then (beh s k.toNat, 0) else ([], 2))
  | [], pre, x, e, ⟨z, hx⟩, hk => by
    have n0 := R.n0
    have n1 := R.n1
    have hlen : s.steps.length = pre.length := by rw [e]; simp
    have hbl : (behL (zeros s.actuators.toNat) pre).length = s.actuators.toNat := by rw [behL_len, zeros_len]
    rw [sequence_Ends_loop1, end_mid e, if_neg (by simp), hK]
    dsimp only
    by_cases hq : (s.steps.length : Int) = k
    · rw [if_pos (by simpa using hq), if_pos ⟨by omega, by omega⟩]
      have : [x.a0, x.a1, x.a2, x.a3, x.a4, x.a5] = x.l := rfl
      rw [this, hx, part_take hbl (by omega), Option.bind_some, appO_ok (by simp; omega) (by decide), Option.bind_some, beh, show k.toNat = s.steps.length by omega, List.take_length, e]
      simp
    · rw [if_neg (by simpa using hq), if_neg (by omega)]
  | y :: r, pre, x, e, ⟨z, hx⟩, hk => by
    have n0 := R.n0
    have n1 := R.n1
    have hl1 := R.l1
    obtain ⟨h1, h2, h3, h4, h5⟩ := step_mid e (by omega)
    have hbl : (behL (zeros s.actuators.toNat) pre).length = s.actuators.toNat := by rw [behL_len, zeros_len]
    obtain ⟨hy1, hy2⟩ := right_lt R y (by rw [e]; simp)
    obtain ⟨g, hg⟩ := R.good y (by rw [e]; simp)
    have hs := R.fit _ _ _ e
    rw [sequence_Ends_loop1, h1, if_pos rfl, h2, Option.bind_some, h3, List.length_cons]
    by_cases hq : (pre.length : Int) = k
    · rw [if_pos (by simpa using hq), if_pos ⟨by omega, by omega⟩]
      have : [x.a0, x.a1, x.a2, x.a3, x.a4, x.a5] = x.l := rfl
      rw [this, hx, part_take hbl (by omega), Option.bind_some, appO_ok (by simp; omega) (by decide), Option.bind_some, beh, show k.toNat = pre.length by omega, e]
      simp
    · rw [if_neg (by simpa using hq)]
      have hx6 : (Ends6.mk x.a0 x.a1 x.a2 x.a3 x.a4 x.a5) = x := rfl
      rw [hx6, behind_eq x y (by omega) hy2, Option.bind_some]
      refine lends_loop s R k K hK r (pre ++ [y]) (run6 x y.strokes) h4 ⟨z, ?_⟩ (by simp; omega)
      rw [run6_l _ _ hy2, hx, setL_app z _ _ (fun w hw => (suits_all g hs w hw).2), behL_app]
      rfl
theorem zero6 {s : Sequence} (R : RightS s) : ∃ z, (Ends6.mk false false false false false false).l = behL (zeros s.actuators.toNat) [] ++ z := ⟨_, zeros_pad R.n0 R.n1⟩
theorem lends_eq (s : Sequence) (k : Int) : sequence_Ends s k = some (endsR s k) := by
  unfold sequence_Ends endsR
  rw [lcheck14, Option.bind_some]
  by_cases h : checkE s = 0
  · have R := checkE_zero h
    rw [if_neg (by simpa using h), if_neg (fun q => q h)]
    unfold joinK
    dsimp only
    rw [fuel0]
    exact lends_loop s R k _ rfl s.steps [] (Ends6.mk false false false false false false) rfl (zero6 R) (by simp; omega)
  · rw [if_pos (by simpa using h), if_pos h]
theorem rends_eq (s : Sequence) (k : Int) : ref14_Ends s k = some (endsR s k) := by
  unfold ref14_Ends endsR
  rw [rcheck14, Option.bind_some]
  by_cases h : checkE s = 0
  · have R := checkE_zero h
    have hn : ¬ checkE s ≠ 0 := fun q => q h
    rw [if_neg (by simpa using h), if_neg hn]
    by_cases hk : 0 ≤ k ∧ k ≤ s.steps.length
    · rw [if_neg (by simp; omega), if_pos hk]
      have q := rbehind_eq s R k.toNat (by omega)
      rw [show ((k.toNat : Nat) : Int) = k by omega] at q
      rw [q]
      rfl
    · rw [if_pos (by simp; omega), if_neg hk]
  · rw [if_pos (by simpa using h), if_pos h]
end Go.Proofs.YtbhcojijafbdiaaGreatDoor.W
