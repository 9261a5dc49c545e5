/- The plain laws of sequences, third part: moves, words, repeats, equality, texts. No program in sight. -/
import Derived.Test.YtbhcojijafbdiaaGreatDoorLawI
set_option linter.unusedVariables false
set_option linter.unusedSimpArgs false
set_option maxHeartbeats 2000000
namespace Go.Proofs.YtbhcojijafbdiaaGreatDoor.W
open Go Go.RowKit
/-! ### moves -/
/-- the steps in which an actuator moves -/
def mvsF (a : Int) (i : Nat) : List Step → List Int
  | [] => []
  | x :: r => if x.strokes.any (·.actuator == a) = true then (i : Int) :: mvsF a (i + 1) r else mvsF a (i + 1) r
theorem mvsF_len (a : Int) : ∀ (r : List Step) (i : Nat), (mvsF a i r).length ≤ r.length
  | [], i => by simp [mvsF]
  | x :: r, i => by
    have := mvsF_len a r (i + 1)
    rw [mvsF]
    split
    · simp; omega
    · simp; omega
theorem lmov2_loop (a : Int) (x : Step) (k3 : Bool → Option (List Int × Int)) (k4 : Option (List Int × Int)) (hl : x.strokes.length ≤ 100) : ∀ (r pre : List Stroke), x.strokes = pre ++ r →
    sequence_Moves_loop2 a x k3 k4 (r.length + 1) (pre.length : Int) = if r.any (·.actuator == a) = true then k3 true else k4
  | [], pre, e => by
    rw [sequence_Moves_loop2, end_mid e]
    simp
  | y :: r, pre, e => by
    obtain ⟨h1, h2, h3, h4, h5⟩ := step_mid e (by omega)
    have ih := lmov2_loop a x k3 k4 hl r (pre ++ [y]) h4
    rw [sequence_Moves_loop2, h1, if_pos rfl, h2, Option.bind_some, h3, List.length_cons, ih, List.any_cons, decide_eq_true (by omega : (pre.length : Int) ≥ 0)]
    cases (y.actuator == a) <;> simp
theorem lmov1_loop (s : Sequence) (a : Int) (K : List Int → Option (List Int × Int)) (hl : s.steps.length ≤ 1000) (hs : ∀ x ∈ s.steps, x.strokes.length ≤ 100) : ∀ (r pre : List Step) (acc : List Int), s.steps = pre ++ r → acc.length ≤ pre.length →
    sequence_Moves_loop1 s K a (r.length + 1) (pre.length : Int) acc = K (acc ++ mvsF a pre.length r)
  | [], pre, acc, e, ha => by
    rw [sequence_Moves_loop1, end_mid e, mvsF, List.append_nil]
    simp
  | y :: r, pre, acc, e, ha => by
    obtain ⟨h1, h2, h3, h4, h5⟩ := step_mid e (by omega)
    have hy := hs y (by rw [e]; simp)
    rw [sequence_Moves_loop1, h1, if_pos rfl, h2]
    unfold joinK
    dsimp only
    rw [Option.bind_some, h3, List.length_cons, fuel0]
    have q := lmov2_loop a y (fun c1 => if c1 = true then (appO 8 acc ([(pre.length : Int)] : List Int)).bind fun _ => sequence_Moves_loop1 s K a (r.length + 1) ((pre ++ [y]).length : Int) (acc ++ ([(pre.length : Int)] : List Int)) else sequence_Moves_loop1 s K a (r.length + 1) ((pre ++ [y]).length : Int) acc) (sequence_Moves_loop1 s K a (r.length + 1) ((pre ++ [y]).length : Int) acc) hy y.strokes [] rfl
    refine Eq.trans q ?_
    rw [mvsF]
    have hp : (pre ++ [y]).length = pre.length + 1 := by simp
    cases (y.strokes.any (·.actuator == a))
    · rw [if_neg (by simp), if_neg (by simp), lmov1_loop s a K hl hs r (pre ++ [y]) acc h4 (by omega), hp]
    · rw [if_pos rfl, if_pos rfl, if_pos rfl, appO_ok (by simp; omega) (by decide), Option.bind_some, lmov1_loop s a K hl hs r (pre ++ [y]) _ h4 (by simp; omega), hp]
      simp
def movesR (s : Sequence) (a : Int) : List Int × Int := if checkE s ≠ 0 then ([], checkE s) else if 0 ≤ a ∧ a < s.actuators then (mvsF a 0 s.steps, 0) else ([], 2)
theorem lmoves_eq (s : Sequence) (a : Int) : sequence_Moves s a = some (movesR s a) := by
  unfold sequence_Moves movesR
  rw [lcheck14, Option.bind_some]
  by_cases h : checkE s = 0
  · have R := checkE_zero h
    have l1 := R.l1
    have hn : ¬ checkE s ≠ 0 := fun q => q h
    rw [if_neg (by simpa using h), if_neg hn]
    by_cases hk : 0 ≤ a ∧ a < s.actuators
    · rw [if_neg (by simp; omega), if_pos hk]
      unfold joinK
      dsimp only
      rw [fuel0]
      exact lmov1_loop s a _ (by omega) (fun x hx => by have := (right_lt R x hx).1; omega) s.steps [] [] rfl (by simp)
    · rw [if_pos (by simp; omega), if_neg hk]
  · rw [if_pos (by simpa using h), if_pos h]
theorem rmov1_loop (s : Sequence) (a : Int) (K : List Int → Option (List Int)) (hl : s.steps.length ≤ 1000) (hs : ∀ x ∈ s.steps, x.strokes.length ≤ 100) : ∀ (r pre : List Step) (acc : List Int), s.steps = pre ++ r → acc.length ≤ pre.length →
    ref14_Steps_loop1 s a K (r.length + 1) (pre.length : Int) acc = K (acc ++ mvsF a pre.length r)
  | [], pre, acc, e, ha => by
    rw [ref14_Steps_loop1, end_mid e, mvsF, List.append_nil]
    simp
  | y :: r, pre, acc, e, ha => by
    obtain ⟨h1, h2, h3, h4, h5⟩ := step_mid e (by omega)
    have hy := hs y (by rw [e]; simp)
    rw [ref14_Steps_loop1, h1, if_pos rfl, h2]
    unfold joinK
    dsimp only
    rw [Option.bind_some, h3, List.length_cons, rway_eq _ _ hy, Option.bind_some, way_any, mvsF]
    have hp : (pre ++ [y]).length = pre.length + 1 := by simp
    cases (y.strokes.any (·.actuator == a))
    · rw [if_neg (by simp), if_neg (by simp), rmov1_loop s a K hl hs r (pre ++ [y]) acc h4 (by omega), hp]
    · rw [if_pos rfl, if_pos rfl, appO_ok (by simp; omega) (by decide), Option.bind_some, rmov1_loop s a K hl hs r (pre ++ [y]) _ h4 (by simp; omega), hp]
      simp
theorem rmoves14_eq (s : Sequence) (a : Int) : ref14_Moves s a = some (movesR s a) := by
  unfold ref14_Moves movesR
  rw [rcheck14, Option.bind_some]
  by_cases h : checkE s = 0
  · have R := checkE_zero h
    have l1 := R.l1
    have hn : ¬ checkE s ≠ 0 := fun q => q h
    rw [if_neg (by simpa using h), if_neg hn]
    by_cases hk : 0 ≤ a ∧ a < s.actuators
    · rw [if_neg (by simp; omega), if_pos hk]
      unfold ref14_Steps joinK
      dsimp only
      rw [fuel0]
      refine Eq.trans (congrArg (fun o => Option.bind o _) (rmov1_loop s a _ (by omega) (fun x hx => by have := (right_lt R x hx).1; omega) s.steps [] [] rfl (by simp))) ?_
      rfl
    · rw [if_pos (by simp; omega), if_neg hk]
  · rw [if_pos (by simpa using h), if_pos h]
/-! ### equal lists -/
theorem eqI_loop (l : List Int) (k : Option Bool) (hb : l.length ≤ 100000) : ∀ (r pre : List Int), l = pre ++ r → slices_Equal_intint_loop1 l l k (r.length + 1) (pre.length : Int) = k
  | [], pre, e => by
    rw [slices_Equal_intint_loop1, end_mid e]
    simp
  | x :: r, pre, e => by
    obtain ⟨h1, h2, h3, h4, h5⟩ := step_mid e (by omega)
    rw [slices_Equal_intint_loop1, h1, if_pos rfl, h2, Option.bind_some, Option.bind_some, h3, if_neg (by simp)]
    exact eqI_loop l k hb r (pre ++ [x]) h4
theorem eqI_eq (l : List Int) (hb : l.length ≤ 100000) : slices_Equal_intint l l = some true := by
  unfold slices_Equal_intint joinK
  dsimp only
  rw [if_neg (by simp), fuel0]
  exact eqI_loop l (some true) hb l [] rfl
theorem rsb_loop (a b : List Bool) (hl : a.length = b.length) (hb : a.length ≤ 100000) : ∀ (r q pre pre2 : List Bool), a = pre ++ r → b = pre2 ++ q → pre.length = pre2.length → ref13_SameEnds_loop1 a b (some true) (r.length + 1) (pre.length : Int) = some (decide (r = q))
  | [], q, pre, pre2, e, e2, hp => by
    have : q = [] := by
      have h1 := congrArg List.length e
      have h2 := congrArg List.length e2
      simp at h1 h2
      exact List.length_eq_zero_iff.1 (by omega)
    subst this
    rw [ref13_SameEnds_loop1, end_mid e]
    simp
  | x :: r, [], pre, pre2, e, e2, hp => by
    have h1 := congrArg List.length e
    have h2 := congrArg List.length e2
    simp at h1 h2
    omega
  | x :: r, y :: q, pre, pre2, e, e2, hp => by
    obtain ⟨h1, h2, h3, h4, h5⟩ := step_mid e (by omega)
    obtain ⟨_, g2, _, g4, _⟩ := step_mid e2 (by omega)
    rw [ref13_SameEnds_loop1, h1, if_pos rfl, h2, Option.bind_some, hp, g2, Option.bind_some, ← hp, h3, List.length_cons, rsb_loop a b hl hb r q (pre ++ [x]) (pre2 ++ [y]) h4 g4 (by simp [hp])]
    by_cases hq : x = y
    · subst hq; simp
    · rw [if_pos (by simpa using hq)]; simp [hq]
theorem rsb_eq (a b : List Bool) (hb : a.length ≤ 100000) : ref13_SameEnds a b = some (decide (a = b)) := by
  unfold ref13_SameEnds joinK
  dsimp only
  by_cases h : a.length = b.length
  · rw [if_neg (by simpa using by omega), fuel0]
    exact rsb_loop a b h hb a b [] [] rfl rfl rfl
  · rw [if_pos (by simpa using by omega), decide_eq_false (fun q => h (by rw [q]))]
theorem sameB_dec (a b : Step) : sameB a b = decide (a = b) := by
  obtain ⟨s, w⟩ := a
  obtain ⟨t, v⟩ := b
  unfold sameB
  rw [Bool.eq_iff_iff]
  simp [and_comm]
theorem efs_loop (a b : List Step) (hl : a.length = b.length) (hb : a.length ≤ 100000) (hs : ∀ x ∈ a, x.strokes.length ≤ 100000) : ∀ (r q pre pre2 : List Step), a = pre ++ r → b = pre2 ++ q → pre.length = pre2.length →
    slices_EqualFunc_api_Step_api_Stepapi_Stepapi_Step_stroke_Same_loop1 a b (some true) (r.length + 1) (pre.length : Int) = some (decide (r = q)) ∧ ref13_SameSteps_loop1 a b (some true) (r.length + 1) (pre.length : Int) = some (decide (r = q))
  | [], q, pre, pre2, e, e2, hp => by
    have : q = [] := by
      have h1 := congrArg List.length e
      have h2 := congrArg List.length e2
      simp at h1 h2
      exact List.length_eq_zero_iff.1 (by omega)
    subst this
    rw [slices_EqualFunc_api_Step_api_Stepapi_Stepapi_Step_stroke_Same_loop1, ref13_SameSteps_loop1, end_mid e]
    simp
  | x :: r, [], pre, pre2, e, e2, hp => by
    have h1 := congrArg List.length e
    have h2 := congrArg List.length e2
    simp at h1 h2
    omega
  | x :: r, y :: q, pre, pre2, e, e2, hp => by
    obtain ⟨h1, h2, h3, h4, h5⟩ := step_mid e (by omega)
    obtain ⟨_, g2, _, g4, _⟩ := step_mid e2 (by omega)
    obtain ⟨i1, i2⟩ := efs_loop a b hl hb hs r q (pre ++ [x]) (pre2 ++ [y]) h4 g4 (by simp [hp])
    have hx := hs x (by rw [e]; simp)
    have hc : (if (x.wait == y.wait) = true then (slices_Equal_api_Strokeapi_Stroke x.strokes y.strokes).bind fun r1 => some r1 else some false) = some (sameB x y) := by
      rw [eqK_eq _ _ hx]
      unfold sameB
      cases x.wait == y.wait <;> rfl
    rw [slices_EqualFunc_api_Step_api_Stepapi_Stepapi_Step_stroke_Same_loop1, ref13_SameSteps_loop1, h1, if_pos rfl, if_pos rfl, h2, Option.bind_some, Option.bind_some, hp, g2, Option.bind_some, Option.bind_some, ← hp, hc, rsame_eq _ _ hx, Option.bind_some, Option.bind_some, h3, List.length_cons, i1, i2, sameB_dec]
    by_cases hq : x = y
    · subst hq; simp
    · simp [hq]
theorem efs_eq (a b : List Step) (hb : a.length ≤ 100000) (hs : ∀ x ∈ a, x.strokes.length ≤ 100000) : slices_EqualFunc_api_Step_api_Stepapi_Stepapi_Step_stroke_Same a b = some (decide (a = b)) ∧ ref13_SameSteps a b = some (decide (a = b)) := by
  unfold slices_EqualFunc_api_Step_api_Stepapi_Stepapi_Step_stroke_Same ref13_SameSteps joinK
  dsimp only
  by_cases h : a.length = b.length
  · rw [if_neg (by simpa using by omega), if_neg (by simpa using by omega), fuel0]
    exact efs_loop a b h hb hs a b [] [] rfl rfl rfl
  · rw [if_pos (by simpa using by omega), if_pos (by simpa using by omega), decide_eq_false (fun q => h (by rw [q]))]
    exact ⟨rfl, rfl⟩
theorem same14 (a b : Sequence) (hb : a.steps.length ≤ 100000) (hs : ∀ x ∈ a.steps, x.strokes.length ≤ 100000) : sequence_Same a b = some (decide (a = b)) ∧ ref14_Same a b = some (decide (a = b)) := by
  obtain ⟨h1, h2⟩ := efs_eq a.steps b.steps hb hs
  unfold sequence_Same ref14_Same
  rw [h1, h2]
  obtain ⟨n, s⟩ := a
  obtain ⟨m, t⟩ := b
  by_cases h : n = m
  · subst h; simp
  · simp [h]
/-! ### the first word, and how many there are -/
theorem flat_len (l : List Step) (n : Nat) (h : ∀ x ∈ l, x.strokes.length ≤ n) : (flat l).length ≤ l.length * n := by
  induction l with
  | nil => simp [flat]
  | cons x r ih =>
    have h1 := h x (by simp)
    have h2 := ih (fun y hy => h y (by simp [hy]))
    rw [flat_cons, List.length_append, List.length_cons, Nat.succ_mul]
    omega
theorem lword_loop (s : Sequence) (K : List Stroke → Option (List Stroke × Int)) (hl : s.steps.length ≤ 1000) (hs : ∀ x ∈ s.steps, x.strokes.length ≤ 100) : ∀ (r pre : List Step), s.steps = pre ++ r → sequence_Word_loop1 s K (r.length + 1) (pre.length : Int) (flat pre) = K (flat s.steps)
  | [], pre, e => by
    rw [sequence_Word_loop1, end_mid e, e]
    simp
  | y :: r, pre, e => by
    obtain ⟨h1, h2, h3, h4, h5⟩ := step_mid e (by omega)
    have hy := hs y (by rw [e]; simp)
    have hp := flat_len pre 100 (fun x hx => hs x (by rw [e]; simp [hx]))
    rw [sequence_Word_loop1, h1, if_pos rfl, h2, Option.bind_some, appO_ok (by omega) (by decide), Option.bind_some, h3, List.length_cons, show flat pre ++ y.strokes = flat (pre ++ [y]) by simp [flat]]
    exact lword_loop s K hl hs r (pre ++ [y]) h4
theorem rword_loop (s : Sequence) (K : List Stroke → Option (List Stroke)) (hl : s.steps.length ≤ 1000) (hs : ∀ x ∈ s.steps, x.strokes.length ≤ 100) : ∀ (r pre : List Step), s.steps = pre ++ r → ref14_First_loop1 s K (r.length + 1) (pre.length : Int) (flat pre) = K (flat s.steps)
  | [], pre, e => by
    rw [ref14_First_loop1, end_mid e, e]
    simp
  | y :: r, pre, e => by
    obtain ⟨h1, h2, h3, h4, h5⟩ := step_mid e (by omega)
    have hy := hs y (by rw [e]; simp)
    have hp := flat_len pre 100 (fun x hx => hs x (by rw [e]; simp [hx]))
    rw [ref14_First_loop1, h1, if_pos rfl, h2, Option.bind_some, appO_ok (by omega) (by decide), Option.bind_some, h3, List.length_cons, show flat pre ++ y.strokes = flat (pre ++ [y]) by simp [flat]]
    exact rword_loop s K hl hs r (pre ++ [y]) h4
def wordR (s : Sequence) : List Stroke × Int := if checkE s ≠ 0 then ([], checkE s) else (flat s.steps, 0)
theorem word_eq (s : Sequence) : sequence_Word s = some (wordR s) ∧ ref14_Word s = some (wordR s) := by
  unfold sequence_Word ref14_Word wordR
  rw [lcheck14, rcheck14, Option.bind_some, Option.bind_some]
  by_cases h : checkE s = 0
  · have R := checkE_zero h
    have l1 := R.l1
    have hn : ¬ checkE s ≠ 0 := fun q => q h
    have hs : ∀ x ∈ s.steps, x.strokes.length ≤ 100 := fun x hx => by have := (right_lt R x hx).1; omega
    have c1 : ¬ (checkE s != 0) = true := by simpa using h
    rw [if_neg c1, if_neg c1, if_neg hn]
    unfold ref14_First joinK
    dsimp only
    rw [fuel0]
    refine ⟨lword_loop s _ (by omega) hs s.steps [] rfl, ?_⟩
    refine Eq.trans (congrArg (fun o => Option.bind o _) (rword_loop s _ (by omega) hs s.steps [] rfl)) ?_
    rfl
  · have c1 : (checkE s != 0) = true := by simpa using h
    rw [if_pos c1, if_pos c1, if_pos h]
    exact ⟨rfl, rfl⟩
def fact : Nat → Nat
  | 0 => 1
  | n + 1 => fact n * (n + 1)
def wordsF (n : Nat) : List Step → Int × Int
  | [] => ((n : Int), 0)
  | x :: r => if n * fact x.strokes.length > 1048576 then (0, 12) else wordsF (n * fact x.strokes.length) r
theorem fact_mono {a b : Nat} (h : a ≤ b) : fact a ≤ fact b := by
  induction b with
  | zero => rw [Nat.le_zero.1 h]; exact Nat.le_refl _
  | succ b ih =>
    rcases Nat.lt_or_ge b a with q | q
    · rw [show a = b + 1 by omega]; exact Nat.le_refl _
    · exact Nat.le_trans (ih q) (by rw [fact]; exact Nat.le_mul_of_pos_right _ (Nat.succ_pos b))
theorem fact6 {a : Nat} (h : a ≤ 6) : fact a ≤ 720 := Nat.le_trans (fact_mono h) (by decide)
theorem lwords2 (x : Step) (K : Int → Option (Int × Int)) (hl : x.strokes.length ≤ 6) (n : Nat) (hn : n ≤ 1048576) : ∀ (m i : Nat), i + m = x.strokes.length → n * fact i ≤ 1048576 →
    sequence_Words_loop2 K x (m + 1) ((n * fact i : Nat) : Int) (i : Int) = if n * fact x.strokes.length > 1048576 then some (0, 12) else K ((n * fact x.strokes.length : Nat) : Int)
  | 0, i, h, hq => by
    rw [sequence_Words_loop2, if_neg (by rw [decide_eq_true_eq]; omega), ← h, Nat.add_zero, if_neg (by omega)]
  | m + 1, i, h, hq => by
    have hb : n * fact i * (i + 1) ≤ 1048576 * 6 := Nat.mul_le_mul hq (by omega)
    have e1 : n * fact (i + 1) = n * fact i * (i + 1) := by rw [fact, Nat.mul_assoc]
    rw [sequence_Words_loop2, if_pos (by rw [decide_eq_true_eq]; omega), wrap64 (x := (i : Int) + 1) (by omega) (by omega), show (i : Int) + 1 = ((i + 1 : Nat) : Int) by omega, ← Int.natCast_mul, ← e1, wrap64 (by omega) (by omega)]
    by_cases hg : n * fact (i + 1) > 1048576
    · have hm := Nat.mul_le_mul_left n (fact_mono (show i + 1 ≤ x.strokes.length by omega))
      rw [if_pos (by rw [decide_eq_true_eq]; omega), if_pos (by omega)]
    · rw [if_neg (by rw [decide_eq_true_eq]; omega)]
      exact lwords2 x K hl n hn m (i + 1) (by omega) (by omega)
theorem lwords1 (s : Sequence) (hl : s.steps.length ≤ 1000) (hs : ∀ x ∈ s.steps, x.strokes.length ≤ 6) : ∀ (r pre : List Step) (n : Nat), s.steps = pre ++ r → n ≤ 1048576 → sequence_Words_loop1 s (fun i6 => some (i6, 0)) (r.length + 1) (n : Int) (pre.length : Int) = some (wordsF n r)
  | [], pre, n, e, hn => by
    rw [sequence_Words_loop1, end_mid e]
    rfl
  | y :: r, pre, n, e, hn => by
    obtain ⟨h1, h2, h3, h4, h5⟩ := step_mid e (by omega)
    have hy := hs y (by rw [e]; simp)
    rw [sequence_Words_loop1, h1, if_pos rfl, h2]
    unfold joinK
    dsimp only
    rw [Option.bind_some, h3, List.length_cons, fuel0]
    have q := lwords2 y (fun i5 => sequence_Words_loop1 s (fun i6 => some (i6, 0)) (r.length + 1) i5 ((pre ++ [y]).length : Int)) hy n hn y.strokes.length 0 (by omega) (by rw [fact]; omega)
    rw [fact, Nat.mul_one] at q
    refine Eq.trans q ?_
    rw [wordsF]
    by_cases hg : n * fact y.strokes.length > 1048576
    · rw [if_pos hg, if_pos hg]
    · rw [if_neg hg, if_neg hg]
      exact lwords1 s hl hs r (pre ++ [y]) _ h4 (by omega)
theorem rwords2 (s : Sequence) (x : Step) (i2 : Int) (hat : at? s.steps i2 = some x) (K : Int → Option (Int × Int)) (hl : x.strokes.length ≤ 6) (n : Nat) (hn : n ≤ 1048576) : ∀ (m i f : Nat), i + m = x.strokes.length → m ≤ f →
    ref14_Words_loop2 s i2 K (f + 1) ((n * fact i : Nat) : Int) ((i : Int) + 1) = K ((n * fact x.strokes.length : Nat) : Int)
  | 0, i, f, h, hf => by
    rw [ref14_Words_loop2, hat, Option.bind_some, if_neg (by rw [decide_eq_true_eq]; omega), ← h, Nat.add_zero]
  | m + 1, i, f + 1, h, hf => by
    have hb : n * fact i ≤ 1048576 * 720 := Nat.mul_le_mul hn (fact6 (by omega))
    have hb2 : n * fact (i + 1) ≤ 1048576 * 720 := Nat.mul_le_mul hn (fact6 (by omega))
    have e1 : n * fact (i + 1) = n * fact i * (i + 1) := by rw [fact, Nat.mul_assoc]
    rw [ref14_Words_loop2, hat, Option.bind_some, if_pos (by rw [decide_eq_true_eq]; omega), show (i : Int) + 1 = ((i + 1 : Nat) : Int) by omega, ← Int.natCast_mul, ← e1, wrap64 (by omega) (by omega), wrap64 (by omega) (by omega)]
    exact rwords2 s x i2 hat K hl n hn m (i + 1) f (by omega) (by omega)
theorem rwords1 (s : Sequence) (hl : s.steps.length ≤ 1000) (hs : ∀ x ∈ s.steps, x.strokes.length ≤ 6) : ∀ (r pre : List Step) (n : Nat), s.steps = pre ++ r → n ≤ 1048576 → ref14_Words_loop1 s (fun i7 => some (i7, 0)) (r.length + 1) (n : Int) (pre.length : Int) = some (wordsF n r)
  | [], pre, n, e, hn => by
    rw [ref14_Words_loop1, end_mid e]
    rfl
  | y :: r, pre, n, e, hn => by
    obtain ⟨h1, h2, h3, h4, h5⟩ := step_mid e (by omega)
    have hy := hs y (by rw [e]; simp)
    rw [ref14_Words_loop1, h1, if_pos rfl]
    unfold joinK
    dsimp only
    rw [h3, List.length_cons]
    -- the factor 1 is left out
    have q := rwords2 s y (pre.length : Int) h2 (fun i5 => if (decide (i5 > 1048576)) = true then some (0, 12) else ref14_Words_loop1 s (fun i7 => some (i7, 0)) (r.length + 1) i5 ((pre ++ [y]).length : Int)) hy n hn (y.strokes.length - 1) 1
    have hne : fact 1 = 1 := rfl
    rw [hne, Nat.mul_one] at q
    have hle : (n * fact y.strokes.length) ≤ 1048576 * 720 := Nat.mul_le_mul hn (fact6 hy)
    have fin : ref14_Words_loop2 s (pre.length : Int) (fun i5 => if (decide (i5 > 1048576)) = true then some (0, 12) else ref14_Words_loop1 s (fun i7 => some (i7, 0)) (r.length + 1) i5 ((pre ++ [y]).length : Int)) 42 (n : Int) 2 = (fun i5 : Int => if (decide (i5 > 1048576)) = true then some (0, 12) else ref14_Words_loop1 s (fun i7 => some (i7, 0)) (r.length + 1) i5 ((pre ++ [y]).length : Int)) ((n * fact y.strokes.length : Nat) : Int) := by
      by_cases h0 : y.strokes.length = 0
      · rw [ref14_Words_loop2, h2, Option.bind_some, if_neg (by rw [decide_eq_true_eq, h0]; decide), h0, fact, Nat.mul_one]
      · exact q 41 (by omega) (by omega)
    refine Eq.trans fin ?_
    dsimp only
    rw [wordsF]
    by_cases hg : n * fact y.strokes.length > 1048576
    · rw [if_pos hg, if_pos (by rw [decide_eq_true_eq]; omega)]
    · rw [if_neg hg, if_neg (by rw [decide_eq_true_eq]; omega)]
      exact rwords1 s hl hs r (pre ++ [y]) _ h4 (by omega)
def wordsR (s : Sequence) : Int × Int := if checkE s ≠ 0 then (0, checkE s) else wordsF 1 s.steps
theorem words_eq (s : Sequence) : sequence_Words s = some (wordsR s) ∧ ref14_Words s = some (wordsR s) := by
  unfold sequence_Words ref14_Words wordsR
  rw [lcheck14, rcheck14, Option.bind_some, Option.bind_some]
  by_cases h : checkE s = 0
  · have R := checkE_zero h
    have l1 := R.l1
    have hn : ¬ checkE s ≠ 0 := fun q => q h
    have c1 : ¬ (checkE s != 0) = true := by simpa using h
    rw [if_neg c1, if_neg c1, if_neg hn]
    unfold joinK
    dsimp only
    rw [fuel0]
    exact ⟨lwords1 s (by omega) (fun x hx => (right_lt R x hx).1) s.steps [] 1 rfl (by decide), rwords1 s (by omega) (fun x hx => (right_lt R x hx).1) s.steps [] 1 rfl (by decide)⟩
  · have c1 : (checkE s != 0) = true := by simpa using h
    rw [if_pos c1, if_pos c1, if_pos h]
    exact ⟨rfl, rfl⟩
theorem law_SequenceChecks (s t : Sequence) : law14_SequenceChecks s t = some true := by
  unfold law14_SequenceChecks
  obtain ⟨b, hb, hf⟩ := few14 s
  obtain ⟨c, hc, hg⟩ := few14 t
  rw [hb, Option.bind_some, hc, awake14, (word_eq s).1, (word_eq s).2, (words_eq s).1, (words_eq s).2, lcheck14, rcheck14]
  cases b
  · simp
  · obtain ⟨f1, f2⟩ := hf.1 rfl
    have hw : (wordR s).1.length ≤ 100000 := by
      unfold wordR
      split
      · simp
      · have := flat_len s.steps 40 f2
        dsimp only
        omega
    cases c
    · simp
    · obtain ⟨s1, s2⟩ := same14 s t (by omega) (fun x hx => by have := f2 x hx; omega)
      obtain ⟨s3, s4⟩ := same14 s s (by omega) (fun x hx => by have := f2 x hx; omega)
      simp [eqK_eq _ _ hw, s1, s2, s3, s4]
theorem endsR_len (s : Sequence) (k : Int) : (endsR s k).1.length ≤ 6 := by
  unfold endsR
  split
  · simp
  · rename_i h
    have R := checkE_zero (Decidable.not_not.1 h)
    have := R.n1
    split
    · dsimp only; rw [beh_len]; omega
    · simp
theorem movesR_len (s : Sequence) (k : Int) : (movesR s k).1.length ≤ 64 := by
  unfold movesR
  split
  · simp
  · rename_i h
    have R := checkE_zero (Decidable.not_not.1 h)
    have := R.l1
    split
    · have := mvsF_len k s.steps 0
      dsimp only
      omega
    · simp
end Go.Proofs.YtbhcojijafbdiaaGreatDoor.W
