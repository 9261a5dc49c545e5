/- The plain laws of sequences, first part: ends, checks. No program in sight. -/
import Derived.Test.YtcgmhlakihjbkaaGreatDoorLawT
set_option linter.unusedVariables false
set_option linter.unusedSimpArgs false
set_option maxHeartbeats 2000000
namespace Go.Proofs.YtcgmhlakihjbkaaGreatDoor.W
open Go Go.RowKit
theorem step_mid {α : Type} {l pre r : List α} {x : α} (e : l = pre ++ x :: r) (h : l.length ≤ 4611686018427387904) :
    decide ((pre.length : Int) < (l.length : Int)) = true ∧ at? l (pre.length : Int) = some x ∧ IntKind.wrap .i64 ((pre.length : Int) + 1) = ((pre ++ [x]).length : Int) ∧ l = (pre ++ [x]) ++ r ∧ l.length = pre.length + (r.length + 1) := by
  subst e
  exact ⟨lt_mid, at?_mid, wrap_mid h, mid_cons, by simp⟩
theorem end_mid {α : Type} {l pre : List α} (e : l = pre ++ []) : decide ((pre.length : Int) < (l.length : Int)) = false := by
  subst e
  exact ge_end
theorem bnot_true (b : Bool) : (!b) = true ↔ b = false := by cases b <;> simp
/-! ### six ends -/
def Ends6.l (x : Ends6) : List Bool := [x.a0, x.a1, x.a2, x.a3, x.a4, x.a5]
theorem l_len (x : Ends6) : x.l.length = 6 := rfl
def set6 (x : Ends6) (y : Stroke) : Ends6 :=
  if y.actuator = 0 then { x with a0 := y.out } else if y.actuator = 1 then { x with a1 := y.out } else if y.actuator = 2 then { x with a2 := y.out }
  else if y.actuator = 3 then { x with a3 := y.out } else if y.actuator = 4 then { x with a4 := y.out } else { x with a5 := y.out }
def run6 (x : Ends6) : List Stroke → Ends6
  | [] => x
  | y :: r => run6 (set6 x y) r
theorem set6_l (x : Ends6) {y : Stroke} (h0 : 0 ≤ y.actuator) (h1 : y.actuator < 6) : (set6 x y).l = x.l.set y.actuator.toNat y.out := by
  obtain ⟨a, o⟩ := y
  have : a = 0 ∨ a = 1 ∨ a = 2 ∨ a = 3 ∨ a = 4 ∨ a = 5 := by dsimp only at h0 h1; omega
  rcases this with rfl | rfl | rfl | rfl | rfl | rfl <;> rfl
theorem run6_l : ∀ (r : List Stroke) (x : Ends6), (∀ y ∈ r, 0 ≤ y.actuator ∧ y.actuator < 6) → (run6 x r).l = setL x.l r
  | [], x, _ => rfl
  | y :: r, x, h => by
    have h1 := h y (by simp)
    rw [run6, setL, run6_l r _ (fun z hz => h z (by simp [hz])), set6_l x h1.1 h1.2]
theorem behind_loop (s : Step) (hl : s.strokes.length ≤ 100) (hp : ∀ y ∈ s.strokes, 0 ≤ y.actuator ∧ y.actuator < 6) : ∀ (r pre : List Stroke) (x : Ends6), s.strokes = pre ++ r →
    sequence_ends_behind_loop1 s (fun c7 c8 c9 c10 c11 c12 => some (Ends6.mk c7 c8 c9 c10 c11 c12)) (r.length + 1) (pre.length : Int) x.a0 x.a1 x.a2 x.a3 x.a4 x.a5 = some (run6 x r)
  | [], pre, x, e => by
    rw [sequence_ends_behind_loop1, end_mid e]
    rfl
  | y :: r, pre, x, e => by
    obtain ⟨h1, h2, h3, h4, h5⟩ := step_mid e (by omega)
    have hy := hp y (by rw [e]; simp)
    have ih := behind_loop s hl hp r (pre ++ [y]) (set6 x y) h4
    rw [sequence_ends_behind_loop1, h1, if_pos rfl, h2, Option.bind_some, h3, run6, ← ih, List.length_cons]
    obtain ⟨a, o⟩ := y
    have : a = 0 ∨ a = 1 ∨ a = 2 ∨ a = 3 ∨ a = 4 ∨ a = 5 := by dsimp only at hy; omega
    rcases this with rfl | rfl | rfl | rfl | rfl | rfl <;> rfl
theorem behind_eq (x : Ends6) (s : Step) (hl : s.strokes.length ≤ 100) (hp : ∀ y ∈ s.strokes, 0 ≤ y.actuator ∧ y.actuator < 6) : sequence_ends_behind x s = some (run6 x s.strokes) := by
  unfold sequence_ends_behind joinK
  dsimp only
  rw [fuel0]
  exact behind_loop s hl hp s.strokes [] x rfl
/-! ### is it in a list -/
theorem inB_loop (s : List Bool) (v : Bool) (hl : s.length ≤ 100000) : ∀ (r pre : List Bool), s = pre ++ r → ∃ i, slices_Index_boolbool_loop1 s v (some (-1)) (r.length + 1) (pre.length : Int) = some i ∧ decide (i ≥ 0) = decide (v ∈ r)
  | [], pre, e => by
    rw [slices_Index_boolbool_loop1, end_mid e]
    exact ⟨-1, rfl, by simp⟩
  | y :: r, pre, e => by
    obtain ⟨h1, h2, h3, h4, h5⟩ := step_mid e (by omega)
    obtain ⟨i, ih, k⟩ := inB_loop s v hl r (pre ++ [y]) h4
    rw [slices_Index_boolbool_loop1, h1, if_pos rfl, h2, Option.bind_some, h3, List.length_cons, ih]
    by_cases hv : v = y
    · refine ⟨(pre.length : Int), by rw [if_pos (by simpa using hv)], ?_⟩
      rw [decide_eq_true (by omega : (pre.length : Int) ≥ 0), decide_eq_true (by simp [hv])]
    · refine ⟨i, by rw [if_neg (by simpa using hv)], ?_⟩
      rw [k]
      simp [hv]
theorem inB_eq (s : List Bool) (v : Bool) (hl : s.length ≤ 100000) : slices_Contains_boolbool s v = some (decide (v ∈ s)) := by
  obtain ⟨i, h, k⟩ := inB_loop s v hl s [] rfl
  unfold slices_Contains_boolbool slices_Index_boolbool joinK
  dsimp only
  rw [fuel0]
  refine Eq.trans (congrArg (fun o => Option.bind o _) h) ?_
  rw [← k]
  rfl
/-! ### few -/
theorem few_loop (s : Sequence) (hl : s.steps.length ≤ 100000) : ∀ (r pre : List Step), s.steps = pre ++ r → ∃ b, ref14_Few_loop1 s (some true) (r.length + 1) (pre.length : Int) = some b ∧ (b = true ↔ ∀ x ∈ r, x.strokes.length ≤ 40)
  | [], pre, e => by
    rw [ref14_Few_loop1, end_mid e]
    exact ⟨true, rfl, by simp⟩
  | y :: r, pre, e => by
    obtain ⟨h1, h2, h3, h4, h5⟩ := step_mid e (by omega)
    obtain ⟨b, ih, k⟩ := few_loop s hl r (pre ++ [y]) h4
    rw [ref14_Few_loop1, h1, if_pos rfl, h2, Option.bind_some, h3, List.length_cons, ih]
    by_cases hv : y.strokes.length ≤ 40
    · refine ⟨b, by rw [if_neg (by simpa using by omega)], ?_⟩
      rw [k]
      simp [hv]
    · exact ⟨false, by rw [if_pos (by simpa using by omega)], by simp [hv]⟩
theorem few14 (s : Sequence) : ∃ b, ref14_Few s = some b ∧ (b = true ↔ s.steps.length ≤ 128 ∧ ∀ x ∈ s.steps, x.strokes.length ≤ 40) := by
  unfold ref14_Few joinK
  dsimp only
  by_cases h : s.steps.length ≤ 128
  · rw [if_neg (by rw [decide_eq_true_eq]; omega), fuel0]
    obtain ⟨b, h1, h2⟩ := few_loop s (by omega) s.steps [] rfl
    exact ⟨b, h1, by rw [h2]; simp [h]⟩
  · rw [if_pos (by rw [decide_eq_true_eq]; omega)]
    exact ⟨false, rfl, by simp [h]⟩
/-! ### checks -/
/-- the error of a step with ends before it, of n actuators -/
def fitE (n : Int) (x : Step) (ends : List Bool) : Int := if chk x ≠ 0 then chk x else if ∃ y ∈ x.strokes, n ≤ y.actuator then 6 else if suitsB x ends = true then 0 else 14
theorem fits1_loop (s : Sequence) (x : Step) (k : Option Int) (hl : x.strokes.length ≤ 100) : ∀ (r pre : List Stroke), x.strokes = pre ++ r → sequence_fits_loop1 s x k (r.length + 1) (pre.length : Int) = if ∃ y ∈ r, s.actuators ≤ y.actuator then some 6 else k
  | [], pre, e => by
    rw [sequence_fits_loop1, end_mid e]
    simp
  | y :: r, pre, e => by
    obtain ⟨h1, h2, h3, h4, h5⟩ := step_mid e (by omega)
    have ih := fits1_loop s x k hl r (pre ++ [y]) h4
    rw [sequence_fits_loop1, h1, if_pos rfl, h2, Option.bind_some, h3, List.length_cons, ih]
    by_cases hv : s.actuators ≤ y.actuator
    · rw [if_pos (by rw [decide_eq_true_eq]; omega), if_pos ⟨y, by simp, hv⟩]
    · rw [if_neg (by rw [decide_eq_true_eq]; omega)]
      simp [hv]
theorem suit_six (x : Ends6) {y : Stroke} (h0 : 0 ≤ y.actuator) (h1 : y.actuator < 6) : ∃ b, x.l[y.actuator.toNat]? = some b ∧ suit1 x.l y = !(b == y.out) := by
  have : y.actuator.toNat < x.l.length := by rw [l_len]; omega
  refine ⟨x.l[y.actuator.toNat], List.getElem?_eq_getElem this, ?_⟩
  unfold suit1
  rw [List.getElem?_eq_getElem this]
  cases x.l[y.actuator.toNat] <;> cases y.out <;> rfl
theorem fits2_loop (x : Step) (e6 : Ends6) (hl : x.strokes.length ≤ 100) (hp : ∀ y ∈ x.strokes, 0 ≤ y.actuator ∧ y.actuator < 6) : ∀ (r pre : List Stroke), x.strokes = pre ++ r → sequence_fits_loop2 x e6 (some 0) (r.length + 1) (pre.length : Int) = some (if r.all (suit1 e6.l) = true then 0 else 14)
  | [], pre, e => by
    rw [sequence_fits_loop2, end_mid e]
    simp
  | y :: r, pre, e => by
    obtain ⟨h1, h2, h3, h4, h5⟩ := step_mid e (by omega)
    have ih := fits2_loop x e6 hl hp r (pre ++ [y]) h4
    have hy := hp y (by rw [e]; simp)
    obtain ⟨b, g1, g2⟩ := suit_six e6 hy.1 hy.2
    rw [sequence_fits_loop2, h1, if_pos rfl, h2, Option.bind_some, h3, List.length_cons]
    unfold joinK
    dsimp only
    rw [ih, List.all_cons, g2]
    have key : ∀ c : Bool, (if c = true then some (14 : Int) else some (if r.all (suit1 e6.l) = true then 0 else 14)) = some (if (!c && r.all (suit1 e6.l)) = true then 0 else 14) := by
      intro c; cases c <;> simp
    obtain ⟨a, o⟩ := y
    have : a = 0 ∨ a = 1 ∨ a = 2 ∨ a = 3 ∨ a = 4 ∨ a = 5 := by dsimp only at hy; omega
    rcases this with rfl | rfl | rfl | rfl | rfl | rfl <;> (obtain rfl := Option.some.inj g1; exact key _)
theorem lfits14 (s : Sequence) (x : Step) (e6 : Ends6) : sequence_fits s x e6 = some (fitE s.actuators x e6.l) := by
  unfold sequence_fits fitE
  rw [lchk_eq, Option.bind_some]
  by_cases h : chk x = 0
  · have g := chk_zero.1 h
    have hf := g.few
    rw [if_neg (by simpa using h), if_neg (fun q => q h)]
    unfold joinK
    dsimp only
    have q := fits2_loop x e6 (by omega) (fun y hy => ⟨(asc_mem g.asc y hy).1, (asc_mem g.asc y hy).2.1⟩) x.strokes [] rfl
    rw [show (([] : List Stroke).length : Int) = 0 from rfl] at q
    rw [fuel0, q]
    refine Eq.trans (fits1_loop s x _ (by omega) x.strokes [] rfl) ?_
    split
    · rfl
    · rfl
  · rw [if_pos (by simpa using h), if_pos h]
def flat (l : List Step) : List Stroke := l.flatMap (·.strokes)
theorem flat_cons (x : Step) (r : List Step) : flat (x :: r) = x.strokes ++ flat r := by simp [flat]
/-- what is wrong with steps, and the ends behind them -/
def runE (n : Int) (l : List Bool) : List Step → Int × List Bool
  | [] => (0, l)
  | x :: r => if fitE n x l ≠ 0 then (fitE n x l, l) else runE n (setL l x.strokes) r
def mv (L : List Stroke) : Ends6 := ⟨L.any (·.actuator == 0), L.any (·.actuator == 1), L.any (·.actuator == 2), L.any (·.actuator == 3), L.any (·.actuator == 4), L.any (·.actuator == 5)⟩
def allMove (n : Int) (L : List Stroke) : Bool := (List.range n.toNat).all fun i => L.any fun y => y.actuator == (i : Int)
def zeros (n : Nat) : List Bool := List.replicate n false
def checkE (s : Sequence) : Int :=
  if s.actuators < 1 ∨ 6 < s.actuators then 2 else if s.steps.length = 0 then 13 else if 64 < s.steps.length then 5
  else if (runE s.actuators (zeros s.actuators.toNat) s.steps).1 ≠ 0 then (runE s.actuators (zeros s.actuators.toNat) s.steps).1
  else if true ∈ (runE s.actuators (zeros s.actuators.toNat) s.steps).2 then 9 else if allMove s.actuators (flat s.steps) = true then 0 else 13
theorem fitE_zero {n : Int} {x : Step} {l : List Bool} (h : fitE n x l = 0) : GoodS x ∧ (∀ y ∈ x.strokes, y.actuator < n) ∧ suitsB x l = true := by
  unfold fitE at h
  split at h
  · rename_i q; exact absurd h q
  · rename_i q
    split at h
    · cases h
    · rename_i q2
      split at h
      · rename_i q3
        exact ⟨chk_zero.1 (Decidable.not_not.1 q), fun y hy => by
          rcases Int.lt_or_le y.actuator n with z | z
          · exact z
          · exact absurd ⟨y, hy, z⟩ q2, q3⟩
      · cases h
theorem check2_loop (x : Step) (r2 : Ends6) (K : Bool → Bool → Bool → Bool → Bool → Bool → Bool → Bool → Bool → Bool → Bool → Bool → Option Int) (hl : x.strokes.length ≤ 100) (hp : ∀ y ∈ x.strokes, 0 ≤ y.actuator ∧ y.actuator < 6) : ∀ (r pre L : List Stroke), x.strokes = pre ++ r →
    sequence_Check_loop2 K x r2 (r.length + 1) (pre.length : Int) (mv L).a0 (mv L).a1 (mv L).a2 (mv L).a3 (mv L).a4 (mv L).a5 = K r2.a0 r2.a1 r2.a2 r2.a3 r2.a4 r2.a5 (mv (L ++ r)).a0 (mv (L ++ r)).a1 (mv (L ++ r)).a2 (mv (L ++ r)).a3 (mv (L ++ r)).a4 (mv (L ++ r)).a5
  | [], pre, L, e => by
    rw [sequence_Check_loop2, end_mid e, List.append_nil]
    rfl
  | y :: r, pre, L, e => by
    obtain ⟨h1, h2, h3, h4, h5⟩ := step_mid e (by omega)
    have hy := hp y (by rw [e]; simp)
    have ih := check2_loop x r2 K hl hp r (pre ++ [y]) (L ++ [y]) h4
    rw [List.append_assoc, List.singleton_append] at ih
    rw [sequence_Check_loop2, h1, if_pos rfl, h2, Option.bind_some, h3, ← ih, List.length_cons]
    obtain ⟨a, o⟩ := y
    have : a = 0 ∨ a = 1 ∨ a = 2 ∨ a = 3 ∨ a = 4 ∨ a = 5 := by dsimp only at hy; omega
    rcases this with rfl | rfl | rfl | rfl | rfl | rfl <;> simp [mv]
theorem check1_loop (s : Sequence) (K : Bool → Bool → Bool → Bool → Bool → Bool → Bool → Bool → Bool → Bool → Bool → Bool → Option Int) (hl : s.steps.length ≤ 100) : ∀ (r pre : List Step) (x : Ends6) (L : List Stroke), s.steps = pre ++ r →
    ∃ x' : Ends6, x'.l = (runE s.actuators x.l r).2 ∧ sequence_Check_loop1 s K (r.length + 1) (pre.length : Int) x.a0 x.a1 x.a2 x.a3 x.a4 x.a5 (mv L).a0 (mv L).a1 (mv L).a2 (mv L).a3 (mv L).a4 (mv L).a5 =
      if (runE s.actuators x.l r).1 ≠ 0 then some (runE s.actuators x.l r).1 else K x'.a0 x'.a1 x'.a2 x'.a3 x'.a4 x'.a5 (mv (L ++ flat r)).a0 (mv (L ++ flat r)).a1 (mv (L ++ flat r)).a2 (mv (L ++ flat r)).a3 (mv (L ++ flat r)).a4 (mv (L ++ flat r)).a5
  | [], pre, x, L, e => by
    rw [sequence_Check_loop1, end_mid e]
    refine ⟨x, rfl, ?_⟩
    simp [runE, flat]
  | y :: r, pre, x, L, e => by
    obtain ⟨h1, h2, h3, h4, h5⟩ := step_mid e (by omega)
    rw [sequence_Check_loop1, h1, if_pos rfl, h2]
    unfold joinK
    dsimp only
    rw [Option.bind_some, h3, List.length_cons]
    have hx : (Ends6.mk x.a0 x.a1 x.a2 x.a3 x.a4 x.a5) = x := rfl
    rw [hx, lfits14, Option.bind_some]
    by_cases hz : fitE s.actuators y x.l = 0
    · obtain ⟨g, g1, g2⟩ := fitE_zero hz
      have hp : ∀ z ∈ y.strokes, 0 ≤ z.actuator ∧ z.actuator < 6 := fun z hz => ⟨(asc_mem g.asc z hz).1, (asc_mem g.asc z hz).2.1⟩
      have hf := g.few
      obtain ⟨x', k1, k2⟩ := check1_loop s K hl r (pre ++ [y]) (run6 x y.strokes) (L ++ y.strokes) h4
      rw [run6_l _ _ hp] at k1 k2
      have hr : runE s.actuators x.l (y :: r) = runE s.actuators (setL x.l y.strokes) r := by rw [runE, if_neg (fun q => q hz)]
      rw [if_neg (by simpa using hz), hr]
      refine ⟨x', k1, ?_⟩
      rw [List.append_assoc, ← flat_cons] at k2
      rw [← k2, behind_eq _ _ (by omega) hp, Option.bind_some, fuel0]
      exact check2_loop y (run6 x y.strokes) _ (by omega) hp y.strokes [] L rfl
    · have hr : runE s.actuators x.l (y :: r) = (fitE s.actuators y x.l, x.l) := by rw [runE, if_pos hz]
      rw [if_pos (by simpa using hz), hr]
      refine ⟨x, rfl, ?_⟩
      dsimp only
      rw [if_pos hz]
theorem setL_app (z : List Bool) : ∀ (r : List Stroke) (l : List Bool), (∀ y ∈ r, y.actuator.toNat < l.length) → setL (l ++ z) r = setL l r ++ z
  | [], l, _ => rfl
  | y :: r, l, h => by
    rw [setL, setL, List.set_append_left _ _ (h y (by simp)), setL_app z r _ (fun w hw => by rw [List.length_set]; exact h w (by simp [hw]))]
theorem suit_app {l z : List Bool} {y : Stroke} (h : y.actuator.toNat < l.length) : suit1 (l ++ z) y = suit1 l y := by
  unfold suit1
  rw [List.getElem?_append_left h]
theorem fitE_app {n : Int} {x : Step} {l z : List Bool} (h : l.length = n.toNat) : fitE n x (l ++ z) = fitE n x l := by
  unfold fitE
  split
  · rfl
  · rename_i hc
    have g := chk_zero.1 (Decidable.not_not.1 hc)
    split
    · rfl
    · rename_i hq
      have : suitsB x (l ++ z) = suitsB x l := by
        unfold suitsB
        rw [Bool.eq_iff_iff, List.all_eq_true, List.all_eq_true]
        have k : ∀ y ∈ x.strokes, suit1 (l ++ z) y = suit1 l y := fun y hy => by
          refine suit_app ?_
          have : ¬ n ≤ y.actuator := fun q => hq ⟨y, hy, q⟩
          have := (asc_mem g.asc y hy).1
          omega
        exact ⟨fun q y hy => by rw [← k y hy]; exact q y hy, fun q y hy => by rw [k y hy]; exact q y hy⟩
      rw [this]
theorem lt_all {n : Int} {x : Step} {l : List Bool} (g : GoodS x) (hn : l.length = n.toNat) (h : ∀ y ∈ x.strokes, y.actuator < n) : ∀ y ∈ x.strokes, y.actuator.toNat < l.length := fun y hy => by
  have := (asc_mem g.asc y hy).1
  have := h y hy
  omega
theorem runE_app {n : Int} (z : List Bool) : ∀ (r : List Step) (l : List Bool), l.length = n.toNat → runE n (l ++ z) r = ((runE n l r).1, (runE n l r).2 ++ z)
  | [], l, _ => rfl
  | x :: r, l, h => by
    rw [runE, runE, fitE_app h]
    split
    · rfl
    · rename_i q
      obtain ⟨g, g1, g2⟩ := fitE_zero (Decidable.not_not.1 q)
      rw [setL_app z _ _ (lt_all g h g1), runE_app z r _ (by rw [setL_len, h])]
theorem runE_len {n : Int} : ∀ (r : List Step) (l : List Bool), (runE n l r).2.length = l.length
  | [], l => rfl
  | x :: r, l => by
    rw [runE]
    split
    · rfl
    · rw [runE_len r, setL_len]
theorem mv_take {n : Int} (h0 : 1 ≤ n) (h1 : n ≤ 6) (L : List Stroke) : part? [(mv L).a0, (mv L).a1, (mv L).a2, (mv L).a3, (mv L).a4, (mv L).a5] 0 n = some ((List.range n.toNat).map fun i : Nat => L.any fun y => y.actuator == (i : Int)) := by
  have : n = 1 ∨ n = 2 ∨ n = 3 ∨ n = 4 ∨ n = 5 ∨ n = 6 := by omega
  rcases this with rfl | rfl | rfl | rfl | rfl | rfl <;> rfl
theorem six_zero (x : Ends6) : (!(x == Ends6.mk false false false false false false)) = decide (true ∈ x.l) := by
  obtain ⟨a, b, c, d, e, f⟩ := x
  cases a <;> cases b <;> cases c <;> cases d <;> cases e <;> cases f <;> rfl
theorem zeros_pad {n : Int} (h0 : 1 ≤ n) (h1 : n ≤ 6) : (Ends6.mk false false false false false false).l = zeros n.toNat ++ zeros (6 - n.toNat) := by
  have : n = 1 ∨ n = 2 ∨ n = 3 ∨ n = 4 ∨ n = 5 ∨ n = 6 := by omega
  rcases this with rfl | rfl | rfl | rfl | rfl | rfl <;> rfl
theorem zeros_no (n : Nat) : true ∉ zeros n := by simp [zeros]
theorem allMove_in (n : Int) (L : List Stroke) : decide (false ∈ (List.range n.toNat).map fun i : Nat => L.any fun y => y.actuator == (i : Int)) = !(allMove n L) := by
  unfold allMove
  rw [Bool.eq_iff_iff, decide_eq_true_eq, bnot_true, List.all_eq_false, List.mem_map]
  constructor
  · rintro ⟨i, h1, h2⟩; exact ⟨i, h1, by rw [h2]; simp⟩
  · rintro ⟨i, h1, h2⟩; exact ⟨i, h1, by simpa using h2⟩
theorem lcheck14 (s : Sequence) : sequence_Check s = some (checkE s) := by
  unfold sequence_Check checkE
  by_cases hn : s.actuators < 1 ∨ 6 < s.actuators
  · rw [if_pos (by simpa using hn), if_pos hn]
  rw [if_neg (by simpa using hn), if_neg hn]
  by_cases h0 : s.steps.length = 0
  · rw [if_pos (by simpa using h0), if_pos h0]
  rw [if_neg (by simpa using h0), if_neg h0]
  by_cases h6 : 64 < s.steps.length
  · rw [if_pos (by simpa using by omega), if_pos h6]
  rw [if_neg (by simpa using by omega), if_neg h6]
  unfold joinK
  dsimp only
  rw [fuel0]
  have n0 : 1 ≤ s.actuators := by omega
  have n1 : s.actuators ≤ 6 := by omega
  obtain ⟨x', k1, k2⟩ := check1_loop s (fun (c31 : Bool) (c32 : Bool) (c33 : Bool) (c34 : Bool) (c35 : Bool) (c36 : Bool) (c37 : Bool) (c38 : Bool) (c39 : Bool) (c40 : Bool) (c41 : Bool) (c42 : Bool) =>
          if (!((Ends6.mk c31 c32 c33 c34 c35 c36) == (Ends6.mk false false false false false false))) = true then
            some 9
          else
            (part? ([c37, c38, c39, c40, c41, c42] : List Bool) 0 s.actuators).bind fun l1 =>
              (slices_Contains_boolbool l1 false).bind fun r3 =>
              if r3 = true then
              some 13
            else
              some 0) (by omega) s.steps [] (Ends6.mk false false false false false false) [] rfl
  refine Eq.trans k2 ?_
  rw [zeros_pad n0 n1, runE_app _ _ _ (by simp [zeros])] at k1 ⊢
  dsimp only at k1 ⊢
  split
  · rfl
  · have hx : (Ends6.mk x'.a0 x'.a1 x'.a2 x'.a3 x'.a4 x'.a5) = x' := rfl
    rw [hx, six_zero, k1, List.nil_append, mv_take n0 n1, Option.bind_some, inB_eq _ _ (by simp; omega), Option.bind_some, allMove_in]
    have hm : (true ∈ (runE s.actuators (zeros s.actuators.toNat) s.steps).2 ++ zeros (6 - s.actuators.toNat)) ↔ true ∈ (runE s.actuators (zeros s.actuators.toNat) s.steps).2 := by
      rw [List.mem_append]
      exact ⟨fun q => q.resolve_right (zeros_no _), Or.inl⟩
    by_cases hq : true ∈ (runE s.actuators (zeros s.actuators.toNat) s.steps).2
    · rw [if_pos (by rw [decide_eq_true_eq]; exact hm.2 hq), if_pos hq]
    · rw [if_neg (by rw [decide_eq_true_eq]; exact fun q => hq (hm.1 q)), if_neg hq]
      cases allMove s.actuators (flat s.steps) <;> rfl
end Go.Proofs.YtcgmhlakihjbkaaGreatDoor.W
