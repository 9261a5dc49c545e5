/- The plain laws of sequences, third part: moves, words, repeats, equality, texts. No program in sight. -/
import Derived.Test.YtcgmhlakihjbkaaGreatDoorLawV
set_option linter.unusedVariables false
set_option linter.unusedSimpArgs false
set_option maxHeartbeats 2000000
namespace Go.Proofs.YtcgmhlakihjbkaaGreatDoor.W
open Go Go.RowKit
/-! ### moves -/
/-- the steps in which an actuator moves -/
def mvsF (a : Int) (i : Nat) : List Step → List Int
  | [] => []
  | x :: r => if x.strokes.any (·.actuator == a) = true then (i : Int) :: mvsF a (i + 1) r else mvsF a (i + 1) r
theorem mvsF_len (a : Int) : ∀ (r : List Step) (i : Nat), (mvsF a i r).length ≤ r.length
  | [], i => by simp [mvsF]
  | x :: r, i => by
    have := mvsF_len a r (i + 1)
    rw [mvsF]
    split
    · simp; omega
    · simp; omega
theorem lmov2_loop (a : Int) (x : Step) (k3 : Bool → Option (List Int × Int)) (k4 : Option (List Int × Int)) (hl : x.strokes.length ≤ 100) : ∀ (r pre : List Stroke), x.strokes = pre ++ r →
    sequence_Moves_loop2 a x k3 k4 (r.length + 1) (pre.length : Int) = if r.any (·.actuator == a) = true then k3 true else k4
  | [], pre, e => by
    rw [sequence_Moves_loop2, end_mid e]
    simp
  | y :: r, pre, e => by
    obtain ⟨h1, h2, h3, h4, h5⟩ := step_mid e (by omega)
    have ih := lmov2_loop a x k3 k4 hl r (pre ++ [y]) h4
    rw [sequence_Moves_loop2, h1, if_pos rfl, h2, Option.bind_some, h3, List.length_cons, ih, List.any_cons, decide_eq_true (by omega : (pre.length : Int) ≥ 0)]
    cases (y.actuator == a) <;> simp
theorem lmov1_loop (s : Sequence) (a : Int) (K : List Int → Option (List Int × Int)) (hl : s.steps.length ≤ 1000) (hs : ∀ x ∈ s.steps, x.strokes.length ≤ 100) : ∀ (r pre : List Step) (acc : List Int), s.steps = pre ++ r → acc.length ≤ pre.length →
    sequence_Moves_loop1 s K a (r.length + 1) (pre.length : Int) acc = K (acc ++ mvsF a pre.length r)
  | [], pre, acc, e, ha => by
    rw [sequence_Moves_loop1, end_mid e, mvsF, List.append_nil]
    simp
  | y :: r, pre, acc, e, ha => by
    obtain ⟨h1, h2, h3, h4, h5⟩ := step_mid e (by omega)
    have hy := hs y (by rw [e]; simp)
    rw [sequence_Moves_loop1, h1, if_pos rfl, h2]
    unfold joinK
    dsimp only
    rw [Option.bind_some, h3, List.length_cons, fuel0]
    have q := lmov2_loop a y (fun c1 => if c1 = true then (appO 8 acc ([(pre.length : Int)] : List Int)).bind fun _ => sequence_Moves_loop1 s K a (r.length + 1) ((pre ++ [y]).length : Int) (acc ++ ([(pre.length : Int)] : List Int)) else sequence_Moves_loop1 s K a (r.length + 1) ((pre ++ [y]).length : Int) acc) (sequence_Moves_loop1 s K a (r.length + 1) ((pre ++ [y]).length : Int) acc) hy y.strokes [] rfl
    refine Eq.trans q ?_
    rw [mvsF]
    have hp : (pre ++ [y]).length = pre.length + 1 := by simp
    cases (y.strokes.any (·.actuator == a))
    · rw [if_neg (by simp), if_neg (by simp), lmov1_loop s a K hl hs r (pre ++ [y]) acc h4 (by omega), hp]
    · rw [if_pos rfl, if_pos rfl, if_pos rfl, appO_ok (by simp; omega) (by decide), Option.bind_some, lmov1_loop s a K hl hs r (pre ++ [y]) _ h4 (by simp; omega), hp]
      simp
def movesR (s : Sequence) (a : Int) : List Int × Int := if checkE s ≠ 0 then ([], checkE s) else if 0 ≤ a ∧ a < s.actuators then (mvsF a 0 s.steps, 0) else ([], 2)
theorem lmoves_eq (s : Sequence) (a : Int) : sequence_Moves s a = some (movesR s a) := by
  unfold sequence_Moves movesR
  rw [lcheck14, Option.bind_some]
  by_cases h : checkE s = 0
  · have R := checkE_zero h
    have l1 := R.l1
    have hn : ¬ checkE s ≠ 0 := fun q => q h
    rw [if_neg (by simpa using h), if_neg hn]
    by_cases hk : 0 ≤ a ∧ a < s.actuators
    · rw [if_neg (by simp; omega), if_pos hk]
      unfold joinK
      dsimp only
      rw [fuel0]
      exact lmov1_loop s a _ (by omega) (fun x hx => by have := (right_lt R x hx).1; omega) s.steps [] [] rfl (by simp)
    · rw [if_pos (by simp; omega), if_neg hk]
  · rw [if_pos (by simpa using h), if_pos h]
/-! ### equal lists -/
/-! ### the first word, and how many there are -/
theorem flat_len (l : List Step) (n : Nat) (h : ∀ x ∈ l, x.strokes.length ≤ n) : (flat l).length ≤ l.length * n := by
  induction l with
  | nil => simp [flat]
  | cons x r ih =>
    have h1 := h x (by simp)
    have h2 := ih (fun y hy => h y (by simp [hy]))
    rw [flat_cons, List.length_append, List.length_cons, Nat.succ_mul]
    omega
theorem rword_loop (s : Sequence) (K : List Stroke → Option (List Stroke)) (hl : s.steps.length ≤ 1000) (hs : ∀ x ∈ s.steps, x.strokes.length ≤ 100) : ∀ (r pre : List Step), s.steps = pre ++ r → ref14_First_loop1 s K (r.length + 1) (pre.length : Int) (flat pre) = K (flat s.steps)
  | [], pre, e => by
    rw [ref14_First_loop1, end_mid e, e]
    simp
  | y :: r, pre, e => by
    obtain ⟨h1, h2, h3, h4, h5⟩ := step_mid e (by omega)
    have hy := hs y (by rw [e]; simp)
    have hp := flat_len pre 100 (fun x hx => hs x (by rw [e]; simp [hx]))
    rw [ref14_First_loop1, h1, if_pos rfl, h2, Option.bind_some, appO_ok (by omega) (by decide), Option.bind_some, h3, List.length_cons, show flat pre ++ y.strokes = flat (pre ++ [y]) by simp [flat]]
    exact rword_loop s K hl hs r (pre ++ [y]) h4
def fact : Nat → Nat
  | 0 => 1
  | n + 1 => fact n * (n + 1)
end Go.Proofs.YtcgmhlakihjbkaaGreatDoor.W
