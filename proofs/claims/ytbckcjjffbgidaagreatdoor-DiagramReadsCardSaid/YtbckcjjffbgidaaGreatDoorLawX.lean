/- The plain laws of diagrams, first part: the cells. No program in sight. -/
import Derived.Test.YtbckcjjffbgidaaGreatDoorLawJ
set_option linter.unusedVariables false
set_option linter.unusedSimpArgs false
set_option linter.unnecessarySimpa false
set_option maxHeartbeats 2000000
set_option linter.unusedSectionVars false
namespace Go.Proofs.YtbckcjjffbgidaaGreatDoor.W
open Go Go.RowKit
def restI (b : Bool) : Int := if b = true then 45 else 95
def goI (b : Bool) : Int := if b = true then 47 else 92
def rc (b : Bool) : Cell := ⟨restI b, restI b⟩
def gc (b : Bool) : Cell := ⟨goI b, restI b⟩
def rowS (c : List Cell) : List Stroke → List Cell
 | [] => c
 | y :: r => rowS (c.set y.actuator.toNat (gc y.out)) r
theorem rowS_len : ∀ (r : List Stroke) (c : List Cell), (rowS c r).length = c.length
 | [], c => rfl
 | y :: r, c => by rw [rowS, rowS_len r, List.length_set]
theorem rowS_get : ∀ (r : List Stroke) (last : Int) (l : List Cell), Asc last r → ∀ i : Nat, i < l.length →
 (rowS l r)[i]? = if wayS (i : Int) r = 1 then some (gc true) else if wayS (i : Int) r = -1 then some (gc false) else l[i]?
 | [], last, l, _, i, _ => by simp [rowS, wayS]
 | y :: r, last, l, h, i, hi => by
  obtain ⟨h0, h1, h2, h3⟩ := h
  rw [rowS, rowS_get r y.actuator (l.set y.actuator.toNat (gc y.out)) h3 i (by rw [List.length_set]; exact hi), wayS]
  by_cases ha : y.actuator = (i : Int)
  · rw [if_pos ha, way_none h3 (by omega)]
    have e : y.actuator.toNat = i := by omega
    rw [if_neg (by decide), if_neg (by decide), e, List.getElem?_set_self hi]
    cases y.out <;> simp
  · rw [if_neg ha, List.getElem?_set_ne (by omega)]
theorem index_eq (b : Bool) : diagram_index b = some (if b = true then 1 else 0) := by cases b <;> rfl
theorem rest_at (b : Bool) : at? diag_rest (if b = true then 1 else 0) = some (restI b) := by cases b <;> rfl
theorem going_at (b : Bool) : at? diag_going (if b = true then 1 else 0) = some (goI b) := by cases b <;> rfl
theorem set_mid {α : Type} {pre r : List α} {x v : α} : (pre ++ x :: r).set pre.length v = pre ++ v :: r := by simp
def stepAt (s : Sequence) (k : Nat) : Step := s.steps[k]?.getD ⟨[], 0⟩
def rowAt (s : Sequence) (k : Nat) : List Cell := rowS ((beh s k).map rc) (stepAt s k).strokes
def cellAt (s : Sequence) (k i : Nat) : Cell := (rowAt s k)[i]?.getD ⟨0, 0⟩
def colAt (s : Sequence) (i k : Nat) : List Cell := (List.range k).map fun k => cellAt s k i
theorem colAt_succ (s : Sequence) (i k : Nat) : colAt s i (k + 1) = colAt s i k ++ [cellAt s k i] := by rw [colAt, List.range_succ, List.map_append]; rfl
theorem colAt_len (s : Sequence) (i k : Nat) : (colAt s i k).length = k := by simp [colAt]
theorem rowAt_len (s : Sequence) (k : Nat) : (rowAt s k).length = s.actuators.toNat := by rw [rowAt, rowS_len, List.length_map, beh_len]
def cellsS (s : Sequence) : List (List Cell) := (List.range s.actuators.toNat).map fun i => colAt s i s.steps.length
theorem at_nat {α : Type} {l : List α} {k : Nat} (h : k < l.length) : at? l (k : Int) = some l[k] := by
 unfold at?
 rw [if_pos (by omega), show ((k : Nat) : Int).toNat = k by omega, List.getElem?_eq_getElem h]
theorem stepAt_eq {s : Sequence} {k : Nat} (h : k < s.steps.length) : stepAt s k = s.steps[k] := by rw [stepAt, List.getElem?_eq_getElem h]; rfl
theorem beh_next {s : Sequence} {k : Nat} (h : k < s.steps.length) : beh s (k + 1) = setL (beh s k) (stepAt s k).strokes := by
 rw [beh, List.take_succ_eq_append_getElem h, behL_app, stepAt_eq h]
 rfl
theorem wrapN (k : Nat) (h : k ≤ 1000000) : IntKind.wrap .i64 ((k : Int) + 1) = ((k + 1 : Nat) : Int) := by rw [wrap64 (by omega) (by omega)]; omega
theorem suits_next {s : Sequence} (R : RightS s) {k : Nat} (h : k < s.steps.length) : suitsB (stepAt s k) (beh s k) = true ∧ GoodS (stepAt s k) ∧ ∀ y ∈ (stepAt s k).strokes, 0 ≤ y.actuator ∧ y.actuator.toNat < s.actuators.toNat := by
 have e : s.steps = s.steps.take k ++ s.steps[k] :: s.steps.drop (k + 1) := by rw [← List.drop_eq_getElem_cons h, List.take_append_drop]
 have hs := R.fit _ _ _ e
 have hg := R.good s.steps[k] (List.getElem_mem h)
 rw [stepAt_eq h]
 refine ⟨hs, hg.1, fun y hy => ?_⟩
 have := suits_all hg.1 hs y hy
 rw [behL_len, zeros_len] at this
 exact this

theorem cells1_loop2 (l1 : List Bool) (K : List Cell → Option (List (List Cell))) (hl : l1.length ≤ 1000) : ∀ (r pre : List Bool), l1 = pre ++ r →
 diagram_cells1_loop2 l1 K (r.length + 1) (pre.length : Int) (pre.map rc ++ List.replicate r.length (Cell.mk 0 0)) = K (l1.map rc)
 | [], pre, e => by
  rw [diagram_cells1_loop2, end_mid e, if_neg (by simp), e]
  simp
 | b :: r, pre, e => by
  obtain ⟨h1, h2, h3, h4, h5⟩ := step_mid e (by omega)
  have ih := cells1_loop2 l1 K hl r (pre ++ [b]) h4
  have hz : at? (pre.map rc ++ List.replicate (b :: r).length (Cell.mk 0 0)) (pre.length : Int) = some (Cell.mk 0 0) := by
   have := at?_mid (pre := pre.map rc) (x := Cell.mk 0 0) (r := List.replicate r.length (Cell.mk 0 0))
   rw [List.length_map] at this
   exact this
  have hs : (pre.map rc ++ List.replicate (b :: r).length (Cell.mk 0 0)).set (pre.length : Int).toNat (rc b) = (pre ++ [b]).map rc ++ List.replicate r.length (Cell.mk 0 0) := by
   have := set_mid (pre := pre.map rc) (x := Cell.mk 0 0) (v := rc b) (r := List.replicate r.length (Cell.mk 0 0))
   rw [List.length_map] at this
   rw [Int.toNat_natCast, List.map_append, List.append_assoc]
   exact this
  rw [List.length_cons] at hz hs
  rw [diagram_cells1_loop2, h1, if_pos rfl, h2]
  simp only [Option.bind_some, index_eq, rest_at, List.length_cons, hz, h3]
  refine Eq.trans (congrArg (diagram_cells1_loop2 l1 K _ _) hs) ih
theorem cells1_loop3 (x : Step) (K : List Bool → List Cell → Option (List (List Cell))) (hl : x.strokes.length ≤ 100) : ∀ (r pre : List Stroke) (l : List Bool) (c : List Cell), x.strokes = pre ++ r → (∀ y ∈ r, 0 ≤ y.actuator ∧ y.actuator.toNat < l.length) → c.length = l.length →
 diagram_cells1_loop3 x K (r.length + 1) (pre.length : Int) l c = K (setL l r) (rowS c r)
 | [], pre, l, c, e, _, _ => by
  rw [diagram_cells1_loop3, end_mid e, if_neg (by simp)]
  rfl
 | y :: r, pre, l, c, e, hy, hc => by
  obtain ⟨h1, h2, h3, h4, h5⟩ := step_mid e (by omega)
  obtain ⟨p0, p1⟩ := hy y (by simp)
  have ih := cells1_loop3 x K hl r (pre ++ [y]) (l.set y.actuator.toNat y.out) (c.set y.actuator.toNat (gc y.out)) h4 (fun z hz => by rw [List.length_set]; exact hy z (by simp [hz])) (by rw [List.length_set, List.length_set, hc])
  have e1 : at? l y.actuator = some l[y.actuator.toNat] := by unfold at?; rw [if_pos p0, List.getElem?_eq_getElem p1]
  have e2 : at? c y.actuator = some (c[y.actuator.toNat]'(by omega)) := by unfold at?; rw [if_pos p0, List.getElem?_eq_getElem (by omega)]
  rw [diagram_cells1_loop3, h1, if_pos rfl, h2]
  simp only [Option.bind_some, e1, index_eq, going_at, rest_at, e2, List.length_cons, h3]
  exact ih
theorem cells1_loop4 (K : List Bool → List Cell → Option (List (List Cell))) (l : List Bool) (x0 : Cell) (a0 : List Cell) (h0 : a0.length ≤ 1000) :
 diagram_cells1_loop4 K [x0] l (Int.toNat (1 - 0) + 1) 0 a0 = K l (a0 ++ [x0]) := by
 have e0 : appO 2 a0 [x0] = some (a0 ++ [x0]) := appO_ok (by simp only [List.length_cons, List.length_nil]; omega) (by decide)
 show diagram_cells1_loop4 K [x0] l 2 0 a0 = _
 rw [diagram_cells1_loop4, if_pos (by decide), if_pos (by decide), show at? [x0] 0 = some x0 from rfl, Option.bind_some, e0, Option.bind_some, show IntKind.wrap .i64 (0 + 1) = 1 by decide]
 rw [diagram_cells1_loop4, if_neg (by decide)]
theorem cells1_loop1 (s : Sequence) (R : RightS s) (hn : s.actuators = 1) (K : List Cell → Option (List (List Cell))) : ∀ (m k : Nat), k + m = s.steps.length →
 diagram_cells1_loop1 s K (m + 1) (k : Int) (beh s k) (colAt s 0 k) = K (colAt s 0 s.steps.length)
 | 0, k, h => by
  rw [diagram_cells1_loop1, if_neg (by rw [decide_eq_true_eq]; omega), show k = s.steps.length by omega]
 | m + 1, k, h => by
  have hk : k < s.steps.length := by omega
  have hl1 := R.l1
  have ih := cells1_loop1 s R hn K m (k + 1) (by omega)
  obtain ⟨hs, hg, hy⟩ := suits_next R hk
  have hf := hg.few
  have hb := beh_len s k
  have l2 : ∀ K, diagram_cells1_loop2 (beh s k) K (Int.toNat (((beh s k).length : Int) - 0) + 1) 0 (List.replicate (Int.toNat s.actuators) (Cell.mk 0 0)) = K ((beh s k).map rc) := fun K => by
   rw [fuel0, ← hb]
   exact cells1_loop2 (beh s k) K (by rw [hb, hn]; decide) (beh s k) [] rfl
  have l3 : ∀ K, diagram_cells1_loop3 (stepAt s k) K (Int.toNat (((stepAt s k).strokes.length : Int) - 0) + 1) 0 (beh s k) ((beh s k).map rc) = K (beh s (k + 1)) (rowAt s k) := fun K => by
   rw [fuel0]
   refine Eq.trans (cells1_loop3 (stepAt s k) K (by omega) (stepAt s k).strokes [] (beh s k) ((beh s k).map rc) rfl (fun y q => by rw [hb]; exact hy y q) (by rw [List.length_map])) ?_
   rw [← beh_next hk, rowAt]
  have hrow : rowAt s k = [cellAt s k 0] := by
   have := rowAt_len s k
   rw [hn] at this
   match hr : rowAt s k, this with
   | [q0], _ => simp [cellAt, hr]
  have l4 := fun K => cells1_loop4 K (beh s (k + 1)) (cellAt s k 0) (colAt s 0 k) (by rw [colAt_len]; omega)
  rw [diagram_cells1_loop1, if_pos (by rw [decide_eq_true_eq]; omega)]
  unfold joinK guardO
  dsimp only
  rw [at_nat hk, Option.bind_some, if_pos (by rw [hn]; decide), Option.bind_some]
  refine Eq.trans (l2 _) ?_
  rw [← stepAt_eq hk]
  refine Eq.trans (l3 _) ?_
  rw [hrow]
  refine Eq.trans (l4 _) ?_
  rw [wrapN k (by omega)]
  refine Eq.trans ?_ ih
  simp only [← colAt_succ]
theorem cells1_eq (s : Sequence) (R : RightS s) (hn : s.actuators = 1) : diagram_cells1 s = some (cellsS s) := by
 unfold diagram_cells1 joinK guardO
 dsimp only
 rw [if_pos (by rw [hn]; decide), Option.bind_some, fuel0]
 refine Eq.trans (cells1_loop1 s R hn _ s.steps.length 0 (by omega)) ?_
 rw [cellsS, hn]
 rfl
theorem cells2_loop4 (K : List Bool → List Cell → List Cell → Option (List (List Cell))) (l : List Bool) (x0 x1 : Cell) (a0 a1 : List Cell) (h0 : a0.length ≤ 1000) (h1 : a1.length ≤ 1000) :
 diagram_cells2_loop4 K [x0, x1] l (Int.toNat (2 - 0) + 1) 0 a0 a1 = K l (a0 ++ [x0]) (a1 ++ [x1]) := by
 have e0 : appO 2 a0 [x0] = some (a0 ++ [x0]) := appO_ok (by simp only [List.length_cons, List.length_nil]; omega) (by decide)
 have e1 : appO 2 a1 [x1] = some (a1 ++ [x1]) := appO_ok (by simp only [List.length_cons, List.length_nil]; omega) (by decide)
 show diagram_cells2_loop4 K [x0, x1] l 3 0 a0 a1 = _
 rw [diagram_cells2_loop4, if_pos (by decide), if_pos (by decide), show at? [x0, x1] 0 = some x0 from rfl, Option.bind_some, e0, Option.bind_some, show IntKind.wrap .i64 (0 + 1) = 1 by decide]
 rw [diagram_cells2_loop4, if_pos (by decide), if_neg (by decide), if_pos (by decide), show at? [x0, x1] 1 = some x1 from rfl, Option.bind_some, e1, Option.bind_some, show IntKind.wrap .i64 (1 + 1) = 2 by decide]
 rw [diagram_cells2_loop4, if_neg (by decide)]
theorem cells2_loop1 (s : Sequence) (R : RightS s) (hn : s.actuators = 2) (K : List Cell → List Cell → Option (List (List Cell))) : ∀ (m k : Nat), k + m = s.steps.length →
 diagram_cells2_loop1 s K (m + 1) (k : Int) (beh s k) (colAt s 0 k) (colAt s 1 k) = K (colAt s 0 s.steps.length) (colAt s 1 s.steps.length)
 | 0, k, h => by
  rw [diagram_cells2_loop1, if_neg (by rw [decide_eq_true_eq]; omega), show k = s.steps.length by omega]
 | m + 1, k, h => by
  have hk : k < s.steps.length := by omega
  have hl1 := R.l1
  have ih := cells2_loop1 s R hn K m (k + 1) (by omega)
  obtain ⟨hs, hg, hy⟩ := suits_next R hk
  have hf := hg.few
  have hb := beh_len s k
  have l2 : ∀ K, diagram_cells1_loop2 (beh s k) K (Int.toNat (((beh s k).length : Int) - 0) + 1) 0 (List.replicate (Int.toNat s.actuators) (Cell.mk 0 0)) = K ((beh s k).map rc) := fun K => by
   rw [fuel0, ← hb]
   exact cells1_loop2 (beh s k) K (by rw [hb, hn]; decide) (beh s k) [] rfl
  have l3 : ∀ K, diagram_cells1_loop3 (stepAt s k) K (Int.toNat (((stepAt s k).strokes.length : Int) - 0) + 1) 0 (beh s k) ((beh s k).map rc) = K (beh s (k + 1)) (rowAt s k) := fun K => by
   rw [fuel0]
   refine Eq.trans (cells1_loop3 (stepAt s k) K (by omega) (stepAt s k).strokes [] (beh s k) ((beh s k).map rc) rfl (fun y q => by rw [hb]; exact hy y q) (by rw [List.length_map])) ?_
   rw [← beh_next hk, rowAt]
  have hrow : rowAt s k = [cellAt s k 0, cellAt s k 1] := by
   have := rowAt_len s k
   rw [hn] at this
   match hr : rowAt s k, this with
   | [q0, q1], _ => simp [cellAt, hr]
  have l4 := fun K => cells2_loop4 K (beh s (k + 1)) (cellAt s k 0) (cellAt s k 1) (colAt s 0 k) (colAt s 1 k) (by rw [colAt_len]; omega) (by rw [colAt_len]; omega)
  rw [diagram_cells2_loop1, if_pos (by rw [decide_eq_true_eq]; omega)]
  unfold joinK guardO
  dsimp only
  rw [at_nat hk, Option.bind_some, if_pos (by rw [hn]; decide), Option.bind_some]
  refine Eq.trans (l2 _) ?_
  rw [← stepAt_eq hk]
  refine Eq.trans (l3 _) ?_
  rw [hrow]
  refine Eq.trans (l4 _) ?_
  rw [wrapN k (by omega)]
  refine Eq.trans ?_ ih
  simp only [← colAt_succ]
theorem cells2_eq (s : Sequence) (R : RightS s) (hn : s.actuators = 2) : diagram_cells2 s = some (cellsS s) := by
 unfold diagram_cells2 joinK guardO
 dsimp only
 rw [if_pos (by rw [hn]; decide), Option.bind_some, fuel0]
 refine Eq.trans (cells2_loop1 s R hn _ s.steps.length 0 (by omega)) ?_
 rw [cellsS, hn]
 rfl
theorem cells3_loop4 (K : List Bool → List Cell → List Cell → List Cell → Option (List (List Cell))) (l : List Bool) (x0 x1 x2 : Cell) (a0 a1 a2 : List Cell) (h0 : a0.length ≤ 1000) (h1 : a1.length ≤ 1000) (h2 : a2.length ≤ 1000) :
 diagram_cells3_loop4 K [x0, x1, x2] l (Int.toNat (3 - 0) + 1) 0 a0 a1 a2 = K l (a0 ++ [x0]) (a1 ++ [x1]) (a2 ++ [x2]) := by
 have e0 : appO 2 a0 [x0] = some (a0 ++ [x0]) := appO_ok (by simp only [List.length_cons, List.length_nil]; omega) (by decide)
 have e1 : appO 2 a1 [x1] = some (a1 ++ [x1]) := appO_ok (by simp only [List.length_cons, List.length_nil]; omega) (by decide)
 have e2 : appO 2 a2 [x2] = some (a2 ++ [x2]) := appO_ok (by simp only [List.length_cons, List.length_nil]; omega) (by decide)
 show diagram_cells3_loop4 K [x0, x1, x2] l 4 0 a0 a1 a2 = _
 rw [diagram_cells3_loop4, if_pos (by decide), if_pos (by decide), show at? [x0, x1, x2] 0 = some x0 from rfl, Option.bind_some, e0, Option.bind_some, show IntKind.wrap .i64 (0 + 1) = 1 by decide]
 rw [diagram_cells3_loop4, if_pos (by decide), if_neg (by decide), if_pos (by decide), show at? [x0, x1, x2] 1 = some x1 from rfl, Option.bind_some, e1, Option.bind_some, show IntKind.wrap .i64 (1 + 1) = 2 by decide]
 rw [diagram_cells3_loop4, if_pos (by decide), if_neg (by decide), if_neg (by decide), if_pos (by decide), show at? [x0, x1, x2] 2 = some x2 from rfl, Option.bind_some, e2, Option.bind_some, show IntKind.wrap .i64 (2 + 1) = 3 by decide]
 rw [diagram_cells3_loop4, if_neg (by decide)]
theorem cells3_loop1 (s : Sequence) (R : RightS s) (hn : s.actuators = 3) (K : List Cell → List Cell → List Cell → Option (List (List Cell))) : ∀ (m k : Nat), k + m = s.steps.length →
 diagram_cells3_loop1 s K (m + 1) (k : Int) (beh s k) (colAt s 0 k) (colAt s 1 k) (colAt s 2 k) = K (colAt s 0 s.steps.length) (colAt s 1 s.steps.length) (colAt s 2 s.steps.length)
 | 0, k, h => by
  rw [diagram_cells3_loop1, if_neg (by rw [decide_eq_true_eq]; omega), show k = s.steps.length by omega]
 | m + 1, k, h => by
  have hk : k < s.steps.length := by omega
  have hl1 := R.l1
  have ih := cells3_loop1 s R hn K m (k + 1) (by omega)
  obtain ⟨hs, hg, hy⟩ := suits_next R hk
  have hf := hg.few
  have hb := beh_len s k
  have l2 : ∀ K, diagram_cells1_loop2 (beh s k) K (Int.toNat (((beh s k).length : Int) - 0) + 1) 0 (List.replicate (Int.toNat s.actuators) (Cell.mk 0 0)) = K ((beh s k).map rc) := fun K => by
   rw [fuel0, ← hb]
   exact cells1_loop2 (beh s k) K (by rw [hb, hn]; decide) (beh s k) [] rfl
  have l3 : ∀ K, diagram_cells1_loop3 (stepAt s k) K (Int.toNat (((stepAt s k).strokes.length : Int) - 0) + 1) 0 (beh s k) ((beh s k).map rc) = K (beh s (k + 1)) (rowAt s k) := fun K => by
   rw [fuel0]
   refine Eq.trans (cells1_loop3 (stepAt s k) K (by omega) (stepAt s k).strokes [] (beh s k) ((beh s k).map rc) rfl (fun y q => by rw [hb]; exact hy y q) (by rw [List.length_map])) ?_
   rw [← beh_next hk, rowAt]
  have hrow : rowAt s k = [cellAt s k 0, cellAt s k 1, cellAt s k 2] := by
   have := rowAt_len s k
   rw [hn] at this
   match hr : rowAt s k, this with
   | [q0, q1, q2], _ => simp [cellAt, hr]
  have l4 := fun K => cells3_loop4 K (beh s (k + 1)) (cellAt s k 0) (cellAt s k 1) (cellAt s k 2) (colAt s 0 k) (colAt s 1 k) (colAt s 2 k) (by rw [colAt_len]; omega) (by rw [colAt_len]; omega) (by rw [colAt_len]; omega)
  rw [diagram_cells3_loop1, if_pos (by rw [decide_eq_true_eq]; omega)]
  unfold joinK guardO
  dsimp only
  rw [at_nat hk, Option.bind_some, if_pos (by rw [hn]; decide), Option.bind_some]
  refine Eq.trans (l2 _) ?_
  rw [← stepAt_eq hk]
  refine Eq.trans (l3 _) ?_
  rw [hrow]
  refine Eq.trans (l4 _) ?_
  rw [wrapN k (by omega)]
  refine Eq.trans ?_ ih
  simp only [← colAt_succ]
theorem cells3_eq (s : Sequence) (R : RightS s) (hn : s.actuators = 3) : diagram_cells3 s = some (cellsS s) := by
 unfold diagram_cells3 joinK guardO
 dsimp only
 rw [if_pos (by rw [hn]; decide), Option.bind_some, fuel0]
 refine Eq.trans (cells3_loop1 s R hn _ s.steps.length 0 (by omega)) ?_
 rw [cellsS, hn]
 rfl
theorem cells4_loop4 (K : List Bool → List Cell → List Cell → List Cell → List Cell → Option (List (List Cell))) (l : List Bool) (x0 x1 x2 x3 : Cell) (a0 a1 a2 a3 : List Cell) (h0 : a0.length ≤ 1000) (h1 : a1.length ≤ 1000) (h2 : a2.length ≤ 1000) (h3 : a3.length ≤ 1000) :
 diagram_cells4_loop4 K [x0, x1, x2, x3] l (Int.toNat (4 - 0) + 1) 0 a0 a1 a2 a3 = K l (a0 ++ [x0]) (a1 ++ [x1]) (a2 ++ [x2]) (a3 ++ [x3]) := by
 have e0 : appO 2 a0 [x0] = some (a0 ++ [x0]) := appO_ok (by simp only [List.length_cons, List.length_nil]; omega) (by decide)
 have e1 : appO 2 a1 [x1] = some (a1 ++ [x1]) := appO_ok (by simp only [List.length_cons, List.length_nil]; omega) (by decide)
 have e2 : appO 2 a2 [x2] = some (a2 ++ [x2]) := appO_ok (by simp only [List.length_cons, List.length_nil]; omega) (by decide)
 have e3 : appO 2 a3 [x3] = some (a3 ++ [x3]) := appO_ok (by simp only [List.length_cons, List.length_nil]; omega) (by decide)
 show diagram_cells4_loop4 K [x0, x1, x2, x3] l 5 0 a0 a1 a2 a3 = _
 rw [diagram_cells4_loop4, if_pos (by decide), if_pos (by decide), show at? [x0, x1, x2, x3] 0 = some x0 from rfl, Option.bind_some, e0, Option.bind_some, show IntKind.wrap .i64 (0 + 1) = 1 by decide]
 rw [diagram_cells4_loop4, if_pos (by decide), if_neg (by decide), if_pos (by decide), show at? [x0, x1, x2, x3] 1 = some x1 from rfl, Option.bind_some, e1, Option.bind_some, show IntKind.wrap .i64 (1 + 1) = 2 by decide]
 rw [diagram_cells4_loop4, if_pos (by decide), if_neg (by decide), if_neg (by decide), if_pos (by decide), show at? [x0, x1, x2, x3] 2 = some x2 from rfl, Option.bind_some, e2, Option.bind_some, show IntKind.wrap .i64 (2 + 1) = 3 by decide]
 rw [diagram_cells4_loop4, if_pos (by decide), if_neg (by decide), if_neg (by decide), if_neg (by decide), if_pos (by decide), show at? [x0, x1, x2, x3] 3 = some x3 from rfl, Option.bind_some, e3, Option.bind_some, show IntKind.wrap .i64 (3 + 1) = 4 by decide]
 rw [diagram_cells4_loop4, if_neg (by decide)]
theorem cells4_loop1 (s : Sequence) (R : RightS s) (hn : s.actuators = 4) (K : List Cell → List Cell → List Cell → List Cell → Option (List (List Cell))) : ∀ (m k : Nat), k + m = s.steps.length →
 diagram_cells4_loop1 s K (m + 1) (k : Int) (beh s k) (colAt s 0 k) (colAt s 1 k) (colAt s 2 k) (colAt s 3 k) = K (colAt s 0 s.steps.length) (colAt s 1 s.steps.length) (colAt s 2 s.steps.length) (colAt s 3 s.steps.length)
 | 0, k, h => by
  rw [diagram_cells4_loop1, if_neg (by rw [decide_eq_true_eq]; omega), show k = s.steps.length by omega]
 | m + 1, k, h => by
  have hk : k < s.steps.length := by omega
  have hl1 := R.l1
  have ih := cells4_loop1 s R hn K m (k + 1) (by omega)
  obtain ⟨hs, hg, hy⟩ := suits_next R hk
  have hf := hg.few
  have hb := beh_len s k
  have l2 : ∀ K, diagram_cells1_loop2 (beh s k) K (Int.toNat (((beh s k).length : Int) - 0) + 1) 0 (List.replicate (Int.toNat s.actuators) (Cell.mk 0 0)) = K ((beh s k).map rc) := fun K => by
   rw [fuel0, ← hb]
   exact cells1_loop2 (beh s k) K (by rw [hb, hn]; decide) (beh s k) [] rfl
  have l3 : ∀ K, diagram_cells1_loop3 (stepAt s k) K (Int.toNat (((stepAt s k).strokes.length : Int) - 0) + 1) 0 (beh s k) ((beh s k).map rc) = K (beh s (k + 1)) (rowAt s k) := fun K => by
   rw [fuel0]
   refine Eq.trans (cells1_loop3 (stepAt s k) K (by omega) (stepAt s k).strokes [] (beh s k) ((beh s k).map rc) rfl (fun y q => by rw [hb]; exact hy y q) (by rw [List.length_map])) ?_
   rw [← beh_next hk, rowAt]
  have hrow : rowAt s k = [cellAt s k 0, cellAt s k 1, cellAt s k 2, cellAt s k 3] := by
   have := rowAt_len s k
   rw [hn] at this
   match hr : rowAt s k, this with
   | [q0, q1, q2, q3], _ => simp [cellAt, hr]
  have l4 := fun K => cells4_loop4 K (beh s (k + 1)) (cellAt s k 0) (cellAt s k 1) (cellAt s k 2) (cellAt s k 3) (colAt s 0 k) (colAt s 1 k) (colAt s 2 k) (colAt s 3 k) (by rw [colAt_len]; omega) (by rw [colAt_len]; omega) (by rw [colAt_len]; omega) (by rw [colAt_len]; omega)
  rw [diagram_cells4_loop1, if_pos (by rw [decide_eq_true_eq]; omega)]
  unfold joinK guardO
  dsimp only
  rw [at_nat hk, Option.bind_some, if_pos (by rw [hn]; decide), Option.bind_some]
  refine Eq.trans (l2 _) ?_
  rw [← stepAt_eq hk]
  refine Eq.trans (l3 _) ?_
  rw [hrow]
  refine Eq.trans (l4 _) ?_
  rw [wrapN k (by omega)]
  refine Eq.trans ?_ ih
  simp only [← colAt_succ]
theorem cells4_eq (s : Sequence) (R : RightS s) (hn : s.actuators = 4) : diagram_cells4 s = some (cellsS s) := by
 unfold diagram_cells4 joinK guardO
 dsimp only
 rw [if_pos (by rw [hn]; decide), Option.bind_some, fuel0]
 refine Eq.trans (cells4_loop1 s R hn _ s.steps.length 0 (by omega)) ?_
 rw [cellsS, hn]
 rfl
theorem cells5_loop4 (K : List Bool → List Cell → List Cell → List Cell → List Cell → List Cell → Option (List (List Cell))) (l : List Bool) (x0 x1 x2 x3 x4 : Cell) (a0 a1 a2 a3 a4 : List Cell) (h0 : a0.length ≤ 1000) (h1 : a1.length ≤ 1000) (h2 : a2.length ≤ 1000) (h3 : a3.length ≤ 1000) (h4 : a4.length ≤ 1000) :
 diagram_cells5_loop4 K [x0, x1, x2, x3, x4] l (Int.toNat (5 - 0) + 1) 0 a0 a1 a2 a3 a4 = K l (a0 ++ [x0]) (a1 ++ [x1]) (a2 ++ [x2]) (a3 ++ [x3]) (a4 ++ [x4]) := by
 have e0 : appO 2 a0 [x0] = some (a0 ++ [x0]) := appO_ok (by simp only [List.length_cons, List.length_nil]; omega) (by decide)
 have e1 : appO 2 a1 [x1] = some (a1 ++ [x1]) := appO_ok (by simp only [List.length_cons, List.length_nil]; omega) (by decide)
 have e2 : appO 2 a2 [x2] = some (a2 ++ [x2]) := appO_ok (by simp only [List.length_cons, List.length_nil]; omega) (by decide)
 have e3 : appO 2 a3 [x3] = some (a3 ++ [x3]) := appO_ok (by simp only [List.length_cons, List.length_nil]; omega) (by decide)
 have e4 : appO 2 a4 [x4] = some (a4 ++ [x4]) := appO_ok (by simp only [List.length_cons, List.length_nil]; omega) (by decide)
 show diagram_cells5_loop4 K [x0, x1, x2, x3, x4] l 6 0 a0 a1 a2 a3 a4 = _
 rw [diagram_cells5_loop4, if_pos (by decide), if_pos (by decide), show at? [x0, x1, x2, x3, x4] 0 = some x0 from rfl, Option.bind_some, e0, Option.bind_some, show IntKind.wrap .i64 (0 + 1) = 1 by decide]
 rw [diagram_cells5_loop4, if_pos (by decide), if_neg (by decide), if_pos (by decide), show at? [x0, x1, x2, x3, x4] 1 = some x1 from rfl, Option.bind_some, e1, Option.bind_some, show IntKind.wrap .i64 (1 + 1) = 2 by decide]
 rw [diagram_cells5_loop4, if_pos (by decide), if_neg (by decide), if_neg (by decide), if_pos (by decide), show at? [x0, x1, x2, x3, x4] 2 = some x2 from rfl, Option.bind_some, e2, Option.bind_some, show IntKind.wrap .i64 (2 + 1) = 3 by decide]
 rw [diagram_cells5_loop4, if_pos (by decide), if_neg (by decide), if_neg (by decide), if_neg (by decide), if_pos (by decide), show at? [x0, x1, x2, x3, x4] 3 = some x3 from rfl, Option.bind_some, e3, Option.bind_some, show IntKind.wrap .i64 (3 + 1) = 4 by decide]
 rw [diagram_cells5_loop4, if_pos (by decide), if_neg (by decide), if_neg (by decide), if_neg (by decide), if_neg (by decide), if_pos (by decide), show at? [x0, x1, x2, x3, x4] 4 = some x4 from rfl, Option.bind_some, e4, Option.bind_some, show IntKind.wrap .i64 (4 + 1) = 5 by decide]
 rw [diagram_cells5_loop4, if_neg (by decide)]
theorem cells5_loop1 (s : Sequence) (R : RightS s) (hn : s.actuators = 5) (K : List Cell → List Cell → List Cell → List Cell → List Cell → Option (List (List Cell))) : ∀ (m k : Nat), k + m = s.steps.length →
 diagram_cells5_loop1 s K (m + 1) (k : Int) (beh s k) (colAt s 0 k) (colAt s 1 k) (colAt s 2 k) (colAt s 3 k) (colAt s 4 k) = K (colAt s 0 s.steps.length) (colAt s 1 s.steps.length) (colAt s 2 s.steps.length) (colAt s 3 s.steps.length) (colAt s 4 s.steps.length)
 | 0, k, h => by
  rw [diagram_cells5_loop1, if_neg (by rw [decide_eq_true_eq]; omega), show k = s.steps.length by omega]
 | m + 1, k, h => by
  have hk : k < s.steps.length := by omega
  have hl1 := R.l1
  have ih := cells5_loop1 s R hn K m (k + 1) (by omega)
  obtain ⟨hs, hg, hy⟩ := suits_next R hk
  have hf := hg.few
  have hb := beh_len s k
  have l2 : ∀ K, diagram_cells1_loop2 (beh s k) K (Int.toNat (((beh s k).length : Int) - 0) + 1) 0 (List.replicate (Int.toNat s.actuators) (Cell.mk 0 0)) = K ((beh s k).map rc) := fun K => by
   rw [fuel0, ← hb]
   exact cells1_loop2 (beh s k) K (by rw [hb, hn]; decide) (beh s k) [] rfl
  have l3 : ∀ K, diagram_cells1_loop3 (stepAt s k) K (Int.toNat (((stepAt s k).strokes.length : Int) - 0) + 1) 0 (beh s k) ((beh s k).map rc) = K (beh s (k + 1)) (rowAt s k) := fun K => by
   rw [fuel0]
   refine Eq.trans (cells1_loop3 (stepAt s k) K (by omega) (stepAt s k).strokes [] (beh s k) ((beh s k).map rc) rfl (fun y q => by rw [hb]; exact hy y q) (by rw [List.length_map])) ?_
   rw [← beh_next hk, rowAt]
  have hrow : rowAt s k = [cellAt s k 0, cellAt s k 1, cellAt s k 2, cellAt s k 3, cellAt s k 4] := by
   have := rowAt_len s k
   rw [hn] at this
   match hr : rowAt s k, this with
   | [q0, q1, q2, q3, q4], _ => simp [cellAt, hr]
  have l4 := fun K => cells5_loop4 K (beh s (k + 1)) (cellAt s k 0) (cellAt s k 1) (cellAt s k 2) (cellAt s k 3) (cellAt s k 4) (colAt s 0 k) (colAt s 1 k) (colAt s 2 k) (colAt s 3 k) (colAt s 4 k) (by rw [colAt_len]; omega) (by rw [colAt_len]; omega) (by rw [colAt_len]; omega) (by rw [colAt_len]; omega) (by rw [colAt_len]; omega)
  rw [diagram_cells5_loop1, if_pos (by rw [decide_eq_true_eq]; omega)]
  unfold joinK guardO
  dsimp only
  rw [at_nat hk, Option.bind_some, if_pos (by rw [hn]; decide), Option.bind_some]
  refine Eq.trans (l2 _) ?_
  rw [← stepAt_eq hk]
  refine Eq.trans (l3 _) ?_
  rw [hrow]
  refine Eq.trans (l4 _) ?_
  rw [wrapN k (by omega)]
  refine Eq.trans ?_ ih
  simp only [← colAt_succ]
theorem cells5_eq (s : Sequence) (R : RightS s) (hn : s.actuators = 5) : diagram_cells5 s = some (cellsS s) := by
 unfold diagram_cells5 joinK guardO
 dsimp only
 rw [if_pos (by rw [hn]; decide), Option.bind_some, fuel0]
 refine Eq.trans (cells5_loop1 s R hn _ s.steps.length 0 (by omega)) ?_
 rw [cellsS, hn]
 rfl
theorem cells6_loop4 (K : List Bool → List Cell → List Cell → List Cell → List Cell → List Cell → List Cell → Option (List (List Cell))) (l : List Bool) (x0 x1 x2 x3 x4 x5 : Cell) (a0 a1 a2 a3 a4 a5 : List Cell) (h0 : a0.length ≤ 1000) (h1 : a1.length ≤ 1000) (h2 : a2.length ≤ 1000) (h3 : a3.length ≤ 1000) (h4 : a4.length ≤ 1000) (h5 : a5.length ≤ 1000) :
 diagram_cells6_loop4 K [x0, x1, x2, x3, x4, x5] l (Int.toNat (6 - 0) + 1) 0 a0 a1 a2 a3 a4 a5 = K l (a0 ++ [x0]) (a1 ++ [x1]) (a2 ++ [x2]) (a3 ++ [x3]) (a4 ++ [x4]) (a5 ++ [x5]) := by
 have e0 : appO 2 a0 [x0] = some (a0 ++ [x0]) := appO_ok (by simp only [List.length_cons, List.length_nil]; omega) (by decide)
 have e1 : appO 2 a1 [x1] = some (a1 ++ [x1]) := appO_ok (by simp only [List.length_cons, List.length_nil]; omega) (by decide)
 have e2 : appO 2 a2 [x2] = some (a2 ++ [x2]) := appO_ok (by simp only [List.length_cons, List.length_nil]; omega) (by decide)
 have e3 : appO 2 a3 [x3] = some (a3 ++ [x3]) := appO_ok (by simp only [List.length_cons, List.length_nil]; omega) (by decide)
 have e4 : appO 2 a4 [x4] = some (a4 ++ [x4]) := appO_ok (by simp only [List.length_cons, List.length_nil]; omega) (by decide)
 have e5 : appO 2 a5 [x5] = some (a5 ++ [x5]) := appO_ok (by simp only [List.length_cons, List.length_nil]; omega) (by decide)
 show diagram_cells6_loop4 K [x0, x1, x2, x3, x4, x5] l 7 0 a0 a1 a2 a3 a4 a5 = _
 rw [diagram_cells6_loop4, if_pos (by decide), if_pos (by decide), show at? [x0, x1, x2, x3, x4, x5] 0 = some x0 from rfl, Option.bind_some, e0, Option.bind_some, show IntKind.wrap .i64 (0 + 1) = 1 by decide]
 rw [diagram_cells6_loop4, if_pos (by decide), if_neg (by decide), if_pos (by decide), show at? [x0, x1, x2, x3, x4, x5] 1 = some x1 from rfl, Option.bind_some, e1, Option.bind_some, show IntKind.wrap .i64 (1 + 1) = 2 by decide]
 rw [diagram_cells6_loop4, if_pos (by decide), if_neg (by decide), if_neg (by decide), if_pos (by decide), show at? [x0, x1, x2, x3, x4, x5] 2 = some x2 from rfl, Option.bind_some, e2, Option.bind_some, show IntKind.wrap .i64 (2 + 1) = 3 by decide]
 rw [diagram_cells6_loop4, if_pos (by decide), if_neg (by decide), if_neg (by decide), if_neg (by decide), if_pos (by decide), show at? [x0, x1, x2, x3, x4, x5] 3 = some x3 from rfl, Option.bind_some, e3, Option.bind_some, show IntKind.wrap .i64 (3 + 1) = 4 by decide]
 rw [diagram_cells6_loop4, if_pos (by decide), if_neg (by decide), if_neg (by decide), if_neg (by decide), if_neg (by decide), if_pos (by decide), show at? [x0, x1, x2, x3, x4, x5] 4 = some x4 from rfl, Option.bind_some, e4, Option.bind_some, show IntKind.wrap .i64 (4 + 1) = 5 by decide]
 rw [diagram_cells6_loop4, if_pos (by decide), if_neg (by decide), if_neg (by decide), if_neg (by decide), if_neg (by decide), if_neg (by decide), if_pos (by decide), show at? [x0, x1, x2, x3, x4, x5] 5 = some x5 from rfl, Option.bind_some, e5, Option.bind_some, show IntKind.wrap .i64 (5 + 1) = 6 by decide]
 rw [diagram_cells6_loop4, if_neg (by decide)]
theorem cells6_loop1 (s : Sequence) (R : RightS s) (hn : s.actuators = 6) (K : List Cell → List Cell → List Cell → List Cell → List Cell → List Cell → Option (List (List Cell))) : ∀ (m k : Nat), k + m = s.steps.length →
 diagram_cells6_loop1 s K (m + 1) (k : Int) (beh s k) (colAt s 0 k) (colAt s 1 k) (colAt s 2 k) (colAt s 3 k) (colAt s 4 k) (colAt s 5 k) = K (colAt s 0 s.steps.length) (colAt s 1 s.steps.length) (colAt s 2 s.steps.length) (colAt s 3 s.steps.length) (colAt s 4 s.steps.length) (colAt s 5 s.steps.length)
 | 0, k, h => by
  rw [diagram_cells6_loop1, if_neg (by rw [decide_eq_true_eq]; omega), show k = s.steps.length by omega]
 | m + 1, k, h => by
  have hk : k < s.steps.length := by omega
  have hl1 := R.l1
  have ih := cells6_loop1 s R hn K m (k + 1) (by omega)
  obtain ⟨hs, hg, hy⟩ := suits_next R hk
  have hf := hg.few
  have hb := beh_len s k
  have l2 : ∀ K, diagram_cells1_loop2 (beh s k) K (Int.toNat (((beh s k).length : Int) - 0) + 1) 0 (List.replicate (Int.toNat s.actuators) (Cell.mk 0 0)) = K ((beh s k).map rc) := fun K => by
   rw [fuel0, ← hb]
   exact cells1_loop2 (beh s k) K (by rw [hb, hn]; decide) (beh s k) [] rfl
  have l3 : ∀ K, diagram_cells1_loop3 (stepAt s k) K (Int.toNat (((stepAt s k).strokes.length : Int) - 0) + 1) 0 (beh s k) ((beh s k).map rc) = K (beh s (k + 1)) (rowAt s k) := fun K => by
   rw [fuel0]
   refine Eq.trans (cells1_loop3 (stepAt s k) K (by omega) (stepAt s k).strokes [] (beh s k) ((beh s k).map rc) rfl (fun y q => by rw [hb]; exact hy y q) (by rw [List.length_map])) ?_
   rw [← beh_next hk, rowAt]
  have hrow : rowAt s k = [cellAt s k 0, cellAt s k 1, cellAt s k 2, cellAt s k 3, cellAt s k 4, cellAt s k 5] := by
   have := rowAt_len s k
   rw [hn] at this
   match hr : rowAt s k, this with
   | [q0, q1, q2, q3, q4, q5], _ => simp [cellAt, hr]
  have l4 := fun K => cells6_loop4 K (beh s (k + 1)) (cellAt s k 0) (cellAt s k 1) (cellAt s k 2) (cellAt s k 3) (cellAt s k 4) (cellAt s k 5) (colAt s 0 k) (colAt s 1 k) (colAt s 2 k) (colAt s 3 k) (colAt s 4 k) (colAt s 5 k) (by rw [colAt_len]; omega) (by rw [colAt_len]; omega) (by rw [colAt_len]; omega) (by rw [colAt_len]; omega) (by rw [colAt_len]; omega) (by rw [colAt_len]; omega)
  rw [diagram_cells6_loop1, if_pos (by rw [decide_eq_true_eq]; omega)]
  unfold joinK guardO
  dsimp only
  rw [at_nat hk, Option.bind_some, if_pos (by rw [hn]; decide), Option.bind_some]
  refine Eq.trans (l2 _) ?_
  rw [← stepAt_eq hk]
  refine Eq.trans (l3 _) ?_
  rw [hrow]
  refine Eq.trans (l4 _) ?_
  rw [wrapN k (by omega)]
  refine Eq.trans ?_ ih
  simp only [← colAt_succ]
theorem cells6_eq (s : Sequence) (R : RightS s) (hn : s.actuators = 6) : diagram_cells6 s = some (cellsS s) := by
 unfold diagram_cells6 joinK guardO
 dsimp only
 rw [if_pos (by rw [hn]; decide), Option.bind_some, fuel0]
 refine Eq.trans (cells6_loop1 s R hn _ s.steps.length 0 (by omega)) ?_
 rw [cellsS, hn]
 rfl
theorem cells_eq (s : Sequence) (R : RightS s) : diagram_cells s = some (cellsS s) := by
 have n0 := R.n0
 have n1 := R.n1
 have : s.actuators = 1 ∨ s.actuators = 2 ∨ s.actuators = 3 ∨ s.actuators = 4 ∨ s.actuators = 5 ∨ s.actuators = 6 := by omega
 unfold diagram_cells
 rcases this with h | h | h | h | h | h
 · rw [if_pos (by rw [h]; decide), cells1_eq s R h]
 · rw [if_neg (by rw [h]; decide), if_pos (by rw [h]; decide), cells2_eq s R h]
 · rw [if_neg (by rw [h]; decide), if_neg (by rw [h]; decide), if_pos (by rw [h]; decide), cells3_eq s R h]
 · rw [if_neg (by rw [h]; decide), if_neg (by rw [h]; decide), if_neg (by rw [h]; decide), if_pos (by rw [h]; decide), cells4_eq s R h]
 · rw [if_neg (by rw [h]; decide), if_neg (by rw [h]; decide), if_neg (by rw [h]; decide), if_neg (by rw [h]; decide), if_pos (by rw [h]; decide), cells5_eq s R h]
 · rw [if_neg (by rw [h]; decide), if_neg (by rw [h]; decide), if_neg (by rw [h]; decide), if_neg (by rw [h]; decide), if_neg (by rw [h]; decide), if_pos (by rw [h]; decide), cells6_eq s R h]
def restB (b : Bool) : UInt8 := if b = true then 45 else 95
def begB (s : Sequence) (k i : Nat) : Bool := (beh s k)[i]?.getD false
def wayA (s : Sequence) (k i : Nat) : Int := wayS (i : Int) (stepAt s k).strokes
def fB (s : Sequence) (k i : Nat) : UInt8 := if wayA s k i = 1 then 47 else if wayA s k i = -1 then 92 else restB (begB s k i)
def sB (s : Sequence) (k i : Nat) : UInt8 := restB (begB s (k + 1) i)
theorem beg_get {s : Sequence} {k i : Nat} (h : i < s.actuators.toNat) : (beh s k)[i]? = some (begB s k i) := by
 have hl := beh_len s k
 rw [begB, List.getElem?_eq_getElem (by omega)]
 rfl
theorem beg_next {s : Sequence} (R : RightS s) {k i : Nat} (hk : k < s.steps.length) (h : i < s.actuators.toNat) :
 begB s (k + 1) i = if wayA s k i = 1 then true else if wayA s k i = -1 then false else begB s k i := by
 obtain ⟨_, hg, _⟩ := suits_next R hk
 have := setL_get (stepAt s k).strokes (-1) (beh s k) hg.asc i (by rw [beh_len]; exact h)
 rw [← beh_next hk, beg_get h, beg_get h] at this
 unfold wayA
 split at this
 · rename_i q; rw [if_pos q]; exact Option.some.inj this
 · rename_i q; rw [if_neg q]
   split at this
   · rename_i q2; rw [if_pos q2]; exact Option.some.inj this
   · rename_i q2; rw [if_neg q2]; exact Option.some.inj this
theorem cell_eq {s : Sequence} (R : RightS s) {k i : Nat} (hk : k < s.steps.length) (h : i < s.actuators.toNat) : cellAt s k i = ⟨((fB s k i).toNat : Int), ((sB s k i).toNat : Int)⟩ := by
 obtain ⟨_, hg, _⟩ := suits_next R hk
 have := rowS_get (stepAt s k).strokes (-1) ((beh s k).map rc) hg.asc i (by rw [List.length_map, beh_len]; exact h)
 rw [cellAt, rowAt, this, sB, beg_next R hk h, fB, List.getElem?_map, beg_get h]
 show Option.getD (if wayA s k i = 1 then some (gc true) else if wayA s k i = -1 then some (gc false) else some (rc (begB s k i))) _ = _
 by_cases q1 : wayA s k i = 1
 · rw [if_pos q1, if_pos q1, if_pos q1]; rfl
 · rw [if_neg q1, if_neg q1, if_neg q1]
   by_cases q2 : wayA s k i = -1
   · rw [if_pos q2, if_pos q2, if_pos q2]; rfl
   · rw [if_neg q2, if_neg q2, if_neg q2]
     cases begB s k i <;> rfl
theorem col_at {s : Sequence} (R : RightS s) {k i : Nat} (hk : k < s.steps.length) (h : i < s.actuators.toNat) : at? (colAt s i s.steps.length) (k : Int) = some ⟨((fB s k i).toNat : Int), ((sB s k i).toNat : Int)⟩ := by
 rw [at_nat (by rw [colAt_len]; exact hk)]
 simp [colAt, cell_eq R hk h]
theorem cells_at {s : Sequence} {i : Nat} (h : i < s.actuators.toNat) : at? (cellsS s) (i : Int) = some (colAt s i s.steps.length) := by
 rw [at_nat (by rw [cellsS]; simpa using h)]
 simp [cellsS]
theorem cellsS_len (s : Sequence) : (cellsS s).length = s.actuators.toNat := by simp [cellsS]
theorem byte_back (b : UInt8) : (decide (0 ≤ ((b.toNat : Nat) : Int)) && decide (((b.toNat : Nat) : Int) ≤ 255)) = true ∧ UInt8.ofNat (Int.toNat ((b.toNat : Nat) : Int)) = b := by
 have := b.toNat_lt
 constructor
 · simp; omega
 · simp
theorem rfirst_eq {s : Sequence} (R : RightS s) {k i : Nat} (hk : k < s.steps.length) (h : i < s.actuators.toNat) : ref16_First s (i : Int) (k : Int) = some [fB s k i] := by
 obtain ⟨_, hg, _⟩ := suits_next R hk
 have hf := hg.few
 have hb := beh_len s k
 unfold ref16_First
 rw [at_nat hk, Option.bind_some, ← stepAt_eq hk, rway_eq _ _ (by omega), Option.bind_some, fB]
 show (if (wayA s k i == 1) = true then _ else if (wayA s k i == -1) = true then _ else _) = _
 by_cases q1 : wayA s k i = 1
 · rw [if_pos (by rw [q1]; rfl), if_pos q1]
 · rw [if_neg (by simpa using q1), if_neg q1]
   by_cases q2 : wayA s k i = -1
   · rw [if_pos (by rw [q2]; rfl), if_pos q2]
   · rw [if_neg (by simpa using q2), if_neg q2, rbehind_eq s R k (by omega), Option.bind_some]
     have : at? (beh s k) (i : Int) = some (begB s k i) := by rw [← beg_get h]; unfold at?; rw [if_pos (by omega)]; simp
     rw [this, Option.bind_some]
     cases begB s k i <;> rfl
theorem rsec_eq {s : Sequence} (R : RightS s) {k i : Nat} (hk : k ≤ s.steps.length) (h : i < s.actuators.toNat) : (ref14_Behind s (k : Int)).bind (fun r => (at? r (i : Int)).bind fun x => ref16_rest x) = some [restB (begB s k i)] := by
 rw [rbehind_eq s R k hk, Option.bind_some]
 have : at? (beh s k) (i : Int) = some (begB s k i) := by rw [← beg_get h]; unfold at?; rw [if_pos (by omega)]; simp
 rw [this, Option.bind_some]
 cases begB s k i <;> rfl
theorem name_eq {i : Nat} (h : i < 6) : ref16_Name (i : Int) = some [UInt8.ofNat (65 + i)] := by
 have := cut_at ⟨i, h⟩
 unfold ref16_Name
 dsimp only at this
 rw [this]
 rfl
theorem letter_eq {i : Nat} (h : i < 6) : diagram_letter (i : Int) = some [UInt8.ofNat (65 + i)] := by
 have := enc_at ⟨i, h⟩
 unfold diagram_letter
 dsimp only at this
 rw [this]
def blk (s : Sequence) (i : Nat) (w : Nat → Nat) (mk : Nat → Bool) (k : Nat) : List UInt8 := (if mk k = true then [124] else []) ++ List.replicate (w k) (fB s k i) ++ [sB s k i]
def lineW (s : Sequence) (i : Nat) (w : Nat → Nat) (mk : Nat → Bool) (k : Nat) : List UInt8 := [UInt8.ofNat (65 + i), 32, 95] ++ (List.range k).flatMap (blk s i w mk)
def linesW (s : Sequence) (w : Nat → Nat) (mk : Nat → Bool) (n : Nat) : List (List UInt8) := (List.range n).map fun i => lineW s i w mk s.steps.length
theorem lineW_succ (s : Sequence) (i : Nat) (w : Nat → Nat) (mk : Nat → Bool) (k : Nat) : lineW s i w mk (k + 1) = lineW s i w mk k ++ blk s i w mk k := by
 simp [lineW, List.range_succ, List.flatMap_append]
theorem linesW_succ (s : Sequence) (w : Nat → Nat) (mk : Nat → Bool) (n : Nat) : linesW s w mk (n + 1) = linesW s w mk n ++ [lineW s n w mk s.steps.length] := by simp [linesW, List.range_succ]
theorem linesW_len (s : Sequence) (w : Nat → Nat) (mk : Nat → Bool) (n : Nat) : (linesW s w mk n).length = n := by simp [linesW]
def sumW (w : Nat → Nat) : Nat → Nat
 | 0 => 0
 | k + 1 => sumW w k + w k
theorem blk_len (s : Sequence) (i : Nat) (w : Nat → Nat) (mk : Nat → Bool) (k : Nat) : (blk s i w mk k).length ≤ w k + 2 := by
 unfold blk
 split <;> simp
theorem line_len16 (s : Sequence) (i : Nat) (w : Nat → Nat) (mk : Nat → Bool) : ∀ k, (lineW s i w mk k).length ≤ 3 + 2 * k + sumW w k
 | 0 => by simp [lineW, sumW]
 | k + 1 => by
  have h1 := blk_len s i w mk k
  have h2 := line_len16 s i w mk k
  rw [lineW_succ, List.length_append, sumW]
  omega
theorem sum_one (k : Nat) : sumW (fun _ => 1) k = k := by
 induction k with
 | zero => rfl
 | succ k ih => rw [sumW, ih]
theorem ldraw2 (s : Sequence) (R : RightS s) (i : Nat) (hi : i < s.actuators.toNat) (K : List UInt8 → Option (List (List UInt8))) : ∀ (m k : Nat), k + m = s.steps.length →
 diagram_draw_loop2 (colAt s i s.steps.length) K (m + 1) (k : Int) (lineW s i (fun _ => 1) (fun _ => false) k) = K (lineW s i (fun _ => 1) (fun _ => false) s.steps.length)
 | 0, k, h => by
  rw [diagram_draw_loop2, if_neg (by rw [decide_eq_true_eq, colAt_len]; omega), show k = s.steps.length by omega]
 | m + 1, k, h => by
  have hk : k < s.steps.length := by omega
  have hl1 := R.l1
  have ih := ldraw2 s R i hi K m (k + 1) (by omega)
  have hlen := line_len16 s i (fun _ => 1) (fun _ => false) k
  rw [sum_one] at hlen
  obtain ⟨g1, b1⟩ := byte_back (fB s k i)
  obtain ⟨g2, b2⟩ := byte_back (sB s k i)
  rw [diagram_draw_loop2, if_pos (by rw [decide_eq_true_eq, colAt_len]; omega), col_at R hk hi, Option.bind_some]
  unfold guardO
  dsimp only
  rw [if_pos g1, Option.bind_some, b1, appO_ok (by simp; omega) (by decide), Option.bind_some, if_pos g2, Option.bind_some, b2, appO_ok (by simp; omega) (by decide), Option.bind_some, wrapN k (by omega), ← ih, lineW_succ]
  congr 1
  simp [blk]
theorem ldraw1 (s : Sequence) (R : RightS s) (K : List (List UInt8) → Option (List (List UInt8))) : ∀ (m i : Nat), i + m = s.actuators.toNat →
 diagram_draw_loop1 K (cellsS s) (m + 1) (i : Int) (linesW s (fun _ => 1) (fun _ => false) i) = K (linesW s (fun _ => 1) (fun _ => false) s.actuators.toNat)
 | 0, i, h => by
  rw [diagram_draw_loop1, if_neg (by rw [decide_eq_true_eq, cellsS_len]; omega), show i = s.actuators.toNat by omega]
 | m + 1, i, h => by
  have hi : i < s.actuators.toNat := by omega
  have hl1 := R.l1
  have n1 := R.n1
  have ih := ldraw1 s R K m (i + 1) (by omega)
  rw [diagram_draw_loop1, if_pos (by rw [decide_eq_true_eq, cellsS_len]; omega)]
  unfold joinK
  dsimp only
  rw [cells_at hi, Option.bind_some, letter_eq (by omega), Option.bind_some, catO_small (by simp), Option.bind_some, appO_ok (by simp) (by decide), Option.bind_some, fuel0, colAt_len]
  refine Eq.trans (ldraw2 s R i hi _ s.steps.length 0 (by omega)) ?_
  rw [appO_ok (by simp [linesW_len]; omega) (by decide), Option.bind_some, wrapN i (by omega), ← ih, linesW_succ]
def waitsB (s : Sequence) : Bool := s.steps.any fun x => x.wait != 0
theorem lhaswait (l : List Step) (hl : l.length ≤ 1000) : ∀ (r pre : List Step), l = pre ++ r → ∃ i, slices_IndexFunc_api_Stepapi_Step_diagram_draw_1_loop1 l (some (-1)) (r.length + 1) (pre.length : Int) = some i ∧ decide (i ≥ 0) = r.any fun x => x.wait != 0
 | [], pre, e => by
  rw [slices_IndexFunc_api_Stepapi_Step_diagram_draw_1_loop1, end_mid e]
  exact ⟨-1, rfl, rfl⟩
 | y :: r, pre, e => by
  obtain ⟨h1, h2, h3, h4, h5⟩ := step_mid e (by omega)
  obtain ⟨i, ih, k⟩ := lhaswait l hl r (pre ++ [y]) h4
  rw [slices_IndexFunc_api_Stepapi_Step_diagram_draw_1_loop1, h1, if_pos rfl, h2, Option.bind_some, h3, List.length_cons, ih, List.any_cons]
  cases hv : (y.wait != 0)
  · exact ⟨i, by rw [if_neg (by decide)], by rw [k]; rfl⟩
  · exact ⟨(pre.length : Int), by rw [if_pos rfl], by simp⟩
theorem lhaswait_eq (s : Sequence) (hl : s.steps.length ≤ 1000) : slices_ContainsFunc_api_Stepapi_Step_diagram_draw_1 s.steps = some (waitsB s) := by
 obtain ⟨i, h, k⟩ := lhaswait s.steps hl s.steps [] rfl
 unfold slices_ContainsFunc_api_Stepapi_Step_diagram_draw_1 slices_IndexFunc_api_Stepapi_Step_diagram_draw_1 joinK
 dsimp only
 rw [fuel0]
 refine Eq.trans (congrArg (fun o => Option.bind o _) h) ?_
 rw [waitsB, ← k]
 rfl
def lineT (l : List Step) : List UInt8 := 84 :: l.flatMap fun x => 32 :: decT x.wait
theorem lineT_snoc (l : List Step) (x : Step) : lineT (l ++ [x]) = lineT l ++ (32 :: decT x.wait) := by simp [lineT]
theorem decT_len {n : Int} (h0 : 0 ≤ n) (h : n ≤ 1000000) : (decT n).length ≤ 7 := dec7 (by omega)
theorem lineT_len : ∀ (l : List Step), (∀ x ∈ l, 0 ≤ x.wait ∧ x.wait ≤ 1000000) → (lineT l).length ≤ 1 + 8 * l.length
 | [], _ => by simp [lineT]
 | x :: l, h => by
  have h1 := lineT_len l (fun y hy => h y (by simp [hy]))
  have h2 := decT_len (h x (by simp)).1 (h x (by simp)).2
  simp only [lineT, List.flatMap_cons, List.length_cons, List.length_append] at h1 ⊢
  omega
theorem ldraw3 (s : Sequence) (K : List UInt8 → Option (List (List UInt8))) (hl : s.steps.length ≤ 1000) (hw : ∀ x ∈ s.steps, 0 ≤ x.wait ∧ x.wait ≤ 1000000) : ∀ (r pre : List Step), s.steps = pre ++ r →
 diagram_draw_loop3 s K (r.length + 1) (pre.length : Int) (lineT pre) = K (lineT s.steps)
 | [], pre, e => by
  rw [diagram_draw_loop3, end_mid e, if_neg (by simp), e]
  simp
 | y :: r, pre, e => by
  obtain ⟨h1, h2, h3, h4, h5⟩ := step_mid e (by omega)
  have hy := hw y (by rw [e]; simp)
  have ih := ldraw3 s K hl hw r (pre ++ [y]) h4
  have q1 := decT_len hy.1 hy.2
  have q2 := lineT_len pre (fun z hz => hw z (by rw [e]; simp [hz]))
  rw [diagram_draw_loop3, h1, if_pos rfl, h2, Option.bind_some, itoa_eq hy.1 hy.2, Option.bind_some, catO_small (by simp; omega), Option.bind_some, appO_ok (by simp; omega) (by decide), Option.bind_some, h3, List.length_cons, ← ih, lineT_snoc]
  rfl
def drawS (s : Sequence) : List (List UInt8) := linesW s (fun _ => 1) (fun _ => false) s.actuators.toNat ++ (if waitsB s = true then [lineT s.steps] else [])
theorem right_wait {s : Sequence} (R : RightS s) : ∀ x ∈ s.steps, 0 ≤ x.wait ∧ x.wait ≤ 1000000 := fun x hx => ⟨(R.good x hx).1.w0, (R.good x hx).1.w1⟩
theorem ldraw_eq (s : Sequence) (R : RightS s) : diagram_draw s = some (drawS s) := by
 have hl1 := R.l1
 have n1 := R.n1
 unfold diagram_draw joinK
 dsimp only
 rw [cells_eq s R, Option.bind_some, fuel0, cellsS_len]
 refine Eq.trans (ldraw1 s R _ s.actuators.toNat 0 (by omega)) ?_
 rw [lhaswait_eq s (by omega), Option.bind_some, drawS]
 cases hw : waitsB s
 · rw [if_neg (by decide), if_neg (by decide), List.append_nil]
 · rw [if_pos rfl, if_pos rfl, appO_ok (by simp) (by decide), Option.bind_some]
   refine Eq.trans (ldraw3 s _ (by omega) (right_wait R) s.steps [] rfl) ?_
   rw [appO_ok (by rw [linesW_len]; simp; omega) (by decide), Option.bind_some]
theorem common_loop (l : List Int) (v : Int) (hl : l.length ≤ 100000) : ∀ (r pre : List Int), l = pre ++ r → ref16_common_loop1 l v (some []) (r.length + 1) (pre.length : Int) = some (if v ∈ r then [v] else [])
 | [], pre, e => by
  rw [ref16_common_loop1, end_mid e]
  rfl
 | y :: r, pre, e => by
  obtain ⟨h1, h2, h3, h4, h5⟩ := step_mid e (by omega)
  have ih := common_loop l v hl r (pre ++ [y]) h4
  rw [ref16_common_loop1, h1, if_pos rfl, h2, Option.bind_some, h3, List.length_cons, ih]
  by_cases hv : y = v
  · rw [if_pos (by simpa using hv), if_pos (by simp [hv])]
  · rw [if_neg (by simpa using hv)]
    have hv2 : ¬ v = y := fun q => hv q.symm
    simp [hv2]
theorem common_eq (l : List Int) (v : Int) (hl : l.length ≤ 100000) : ref16_common l v = some (if v ∈ l then [v] else []) := by
 unfold ref16_common joinK
 dsimp only
 rw [fuel0]
 exact common_loop l v hl l [] rfl
theorem same_common (l : List Int) (v : Int) : ref14_SameInts [v] (if v ∈ l then [v] else []) = some (decide (v ∈ l)) := by
 by_cases h : v ∈ l
 · rw [if_pos h, decide_eq_true h]
   unfold ref14_SameInts joinK
   dsimp only
   rw [if_neg (by simp)]
   show ref14_SameInts_loop1 [v] [v] (some true) 2 0 = some true
   rw [ref14_SameInts_loop1, if_pos (by simp), show at? [v] 0 = some v from rfl, Option.bind_some, Option.bind_some, if_neg (by simp), show IntKind.wrap .i64 (0 + 1) = 1 by decide, ref14_SameInts_loop1, if_neg (by simp)]
 · rw [if_neg h, decide_eq_false h]
   unfold ref14_SameInts
   rw [if_pos (by simp)]
def mkOf (ms : List Int) (k : Nat) : Bool := decide ((k : Int) ∈ ms)
theorem mkOf_nil : mkOf [] = fun _ => false := by funext k; simp [mkOf]
theorem sum_mono (w : Nat → Nat) {a b : Nat} (h : a ≤ b) : sumW w a ≤ sumW w b := by
 induction b with
 | zero => rw [show a = 0 by omega]; omega
 | succ b ih =>
  by_cases e : a = b + 1
  · rw [e]; omega
  · have := ih (by omega); rw [sumW]; omega
theorem ones_loop (n : Nat) (hn : n ≤ 100000) (K : List Int → Option (List Int)) : ∀ (m i : Nat), i + m = n → ref16_ones_loop1 (n : Int) K (m + 1) (i : Int) (List.replicate i 1) = K (List.replicate n 1)
 | 0, i, h => by rw [ref16_ones_loop1, if_neg (by rw [decide_eq_true_eq]; omega), show i = n by omega]
 | m + 1, i, h => by
  have ih := ones_loop n hn K m (i + 1) (by omega)
  rw [ref16_ones_loop1, if_pos (by rw [decide_eq_true_eq]; omega), appO_ok (by simp; omega) (by decide), Option.bind_some, wrapN i (by omega), ← ih, List.replicate_succ']
theorem ones_eq (n : Nat) (hn : n ≤ 100000) : ref16_ones (n : Int) = some (List.replicate n 1) := by
 unfold ref16_ones joinK
 dsimp only
 rw [show Int.toNat ((n : Int) - 0) = n by omega]
 exact ones_loop n hn _ n 0 (by omega)
theorem ones_at (n : Nat) : ∀ k < n, at? (List.replicate n (1 : Int)) (k : Int) = some (((fun _ => 1 : Nat → Nat) k : Nat) : Int) := fun k hk => by
 rw [at_nat (by simpa using hk)]
 simp
theorem rdrawn3 (s : Sequence) (R : RightS s) (ws : List Int) (i k w : Nat) (hk : k < s.steps.length) (hi : i < s.actuators.toNat) (hw : at? ws (k : Int) = some (w : Int)) (h4 : w ≤ 4096) (K : List UInt8 → Option (List (List UInt8))) : ∀ (m j f : Nat) (t : List UInt8), j + m = w → m + 1 ≤ f → t.length + m ≤ 1000000 →
 ref16_drawn_loop3 s ws (i : Int) (k : Int) K f t (j : Int) = K (t ++ List.replicate m (fB s k i))
 | 0, j, f + 1, t, h, hf, ht => by
  rw [ref16_drawn_loop3, hw, Option.bind_some, if_neg (by rw [decide_eq_true_eq]; omega)]
  simp
 | m + 1, j, f + 1, t, h, hf, ht => by
  have ih := rdrawn3 s R ws i k w hk hi hw h4 K m (j + 1) f (t ++ [fB s k i]) (by omega) (by omega) (by simp; omega)
  rw [ref16_drawn_loop3, hw, Option.bind_some, if_pos (by rw [decide_eq_true_eq]; omega), rfirst_eq R hk hi, Option.bind_some, catO_small (by simp; omega), Option.bind_some, wrapN j (by omega), ih, List.append_assoc]
  rfl
theorem rdrawn2 (s : Sequence) (R : RightS s) (ws ms : List Int) (w : Nat → Nat) (hw : ∀ k < s.steps.length, at? ws (k : Int) = some (w k : Int) ∧ w k ≤ 4096) (hS : sumW w s.steps.length ≤ 100000) (i : Nat) (hi : i < s.actuators.toNat) (hm : ms.length ≤ 100000) (K : List UInt8 → Option (List (List UInt8))) : ∀ (m k : Nat), k + m = s.steps.length →
 ref16_drawn_loop2 s ms (i : Int) K ws (m + 1) (lineW s i w (mkOf ms) k) (k : Int) = K (lineW s i w (mkOf ms) s.steps.length)
 | 0, k, h => by
  rw [ref16_drawn_loop2, if_neg (by rw [decide_eq_true_eq]; omega), show k = s.steps.length by omega]
 | m + 1, k, h => by
  have hk : k < s.steps.length := by omega
  have hl1 := R.l1
  have ih := rdrawn2 s R ws ms w hw hS i hi hm K m (k + 1) (by omega)
  obtain ⟨hw1, hw2⟩ := hw k hk
  have hsm := sum_mono w (show k ≤ s.steps.length by omega)
  have hsm2 := sum_mono w (show k + 1 ≤ s.steps.length by omega)
  rw [sumW] at hsm2
  have hlen := line_len16 s i w (mkOf ms) k
  have hsec := rsec_eq R (k := k + 1) (by omega) hi
  have fin : ∀ t : List UInt8, t.length ≤ 200000 → (ref16_drawn_loop3 s ws (i : Int) (k : Int) (fun s7 => (ref14_Behind s (IntKind.wrap .i64 ((k : Int) + 1))).bind fun r5 => (at? r5 (i : Int)).bind fun x2 => (ref16_rest x2).bind fun r6 => (catO s7 r6).bind fun s8 => ref16_drawn_loop2 s ms (i : Int) K ws (m + 1) s8 (IntKind.wrap .i64 ((k : Int) + 1))) 4100 t 0)
   = ref16_drawn_loop2 s ms (i : Int) K ws (m + 1) (t ++ List.replicate (w k) (fB s k i) ++ [sB s k i]) (((k + 1 : Nat) : Nat) : Int) := fun t ht => by
   refine Eq.trans (rdrawn3 s R ws i k (w k) hk hi hw1 (by omega) _ (w k) 0 4100 t (by omega) (by omega) (by omega)) ?_
   rw [wrapN k (by omega)]
   have e : ∀ G : List UInt8 → Option (List (List UInt8)), ((ref14_Behind s ((k + 1 : Nat) : Int)).bind fun r5 => (at? r5 (i : Int)).bind fun x2 => (ref16_rest x2).bind fun r6 => G r6) = G [sB s k i] := fun G => by
    have := congrArg (fun o => Option.bind o G) hsec
    rw [Option.bind_some] at this
    refine Eq.trans ?_ this
    simp only [Option.bind_assoc]
   rw [e (fun r6 => (catO (t ++ List.replicate (w k) (fB s k i)) r6).bind fun s8 => ref16_drawn_loop2 s ms (i : Int) K ws (m + 1) s8 ((k + 1 : Nat) : Int)), catO_small (by simp; omega), Option.bind_some]
  rw [ref16_drawn_loop2, if_pos (by rw [decide_eq_true_eq]; omega)]
  unfold joinK
  dsimp only
  rw [common_eq _ _ (by omega), Option.bind_some, same_common, Option.bind_some, ← ih, lineW_succ]
  by_cases hc : (k : Int) ∈ ms
  · rw [if_pos (by simpa using hc), catO_small (by simp; omega), Option.bind_some]
    refine Eq.trans (fin _ (by simp; omega)) ?_
    congr 1
    rw [blk, if_pos (by simpa [mkOf] using hc)]
    simp
  · rw [if_neg (by simpa using hc)]
    refine Eq.trans (fin _ (by omega)) ?_
    congr 1
    rw [blk, if_neg (by simpa [mkOf] using hc)]
    simp
theorem rdrawn1 (s : Sequence) (R : RightS s) (ws ms : List Int) (w : Nat → Nat) (hw : ∀ k < s.steps.length, at? ws (k : Int) = some (w k : Int) ∧ w k ≤ 4096) (hS : sumW w s.steps.length ≤ 100000) (hm : ms.length ≤ 100000) (K : List (List UInt8) → Option (List (List UInt8))) : ∀ (m i : Nat), i + m = s.actuators.toNat →
 ref16_drawn_loop1 s K ms ws (m + 1) (i : Int) (linesW s w (mkOf ms) i) = K (linesW s w (mkOf ms) s.actuators.toNat)
 | 0, i, h => by
  rw [ref16_drawn_loop1, if_neg (by rw [decide_eq_true_eq]; omega), show i = s.actuators.toNat by omega]
 | m + 1, i, h => by
  have hi : i < s.actuators.toNat := by omega
  have hl1 := R.l1
  have n1 := R.n1
  have ih := rdrawn1 s R ws ms w hw hS hm K m (i + 1) (by omega)
  rw [ref16_drawn_loop1, if_pos (by rw [decide_eq_true_eq]; omega)]
  unfold joinK
  dsimp only
  rw [name_eq (by omega), Option.bind_some, catO_small (by simp), Option.bind_some, fuel0]
  refine Eq.trans (rdrawn2 s R ws ms w hw hS i hi hm _ s.steps.length 0 (by omega)) ?_
  rw [appO_ok (by simp [linesW_len]; omega) (by decide), Option.bind_some, wrapN i (by omega), ← ih, linesW_succ]
theorem rLines3 (s : Sequence) (R : RightS s) (ws : List Int) (i k w : Nat) (hk : k < s.steps.length) (hi : i < s.actuators.toNat) (hw : at? ws (k : Int) = some (w : Int)) (h4 : w ≤ 4096) (K : List UInt8 → Option (List (List UInt8))) : ∀ (m j f : Nat) (t : List UInt8), j + m = w → m + 1 ≤ f → t.length + m ≤ 1000000 →
 ref16_Lines_loop3 s ws (i : Int) (k : Int) K f t (j : Int) = K (t ++ List.replicate m (fB s k i))
 | 0, j, f + 1, t, h, hf, ht => by
  rw [ref16_Lines_loop3, hw, Option.bind_some, if_neg (by rw [decide_eq_true_eq]; omega)]
  simp
 | m + 1, j, f + 1, t, h, hf, ht => by
  have ih := rLines3 s R ws i k w hk hi hw h4 K m (j + 1) f (t ++ [fB s k i]) (by omega) (by omega) (by simp; omega)
  rw [ref16_Lines_loop3, hw, Option.bind_some, if_pos (by rw [decide_eq_true_eq]; omega), rfirst_eq R hk hi, Option.bind_some, catO_small (by simp; omega), Option.bind_some, wrapN j (by omega), ih, List.append_assoc]
  rfl
theorem rLines2 (s : Sequence) (R : RightS s) (ws ms : List Int) (w : Nat → Nat) (hw : ∀ k < s.steps.length, at? ws (k : Int) = some (w k : Int) ∧ w k ≤ 1) (hS : sumW w s.steps.length ≤ 100000) (i : Nat) (hi : i < s.actuators.toNat) (hm : ms.length ≤ 100000) (hm0 : ms = []) (K : List UInt8 → Option (List (List UInt8))) : ∀ (m k : Nat), k + m = s.steps.length →
 ref16_Lines_loop2 s (i : Int) K ws (m + 1) (lineW s i w (mkOf ms) k) (k : Int) = K (lineW s i w (mkOf ms) s.steps.length)
 | 0, k, h => by
  rw [ref16_Lines_loop2, if_neg (by rw [decide_eq_true_eq]; omega), show k = s.steps.length by omega]
 | m + 1, k, h => by
  have hk : k < s.steps.length := by omega
  have hl1 := R.l1
  have ih := rLines2 s R ws ms w hw hS i hi hm hm0 K m (k + 1) (by omega)
  obtain ⟨hw1, hw2⟩ := hw k hk
  have hsm := sum_mono w (show k ≤ s.steps.length by omega)
  have hsm2 := sum_mono w (show k + 1 ≤ s.steps.length by omega)
  rw [sumW] at hsm2
  have hlen := line_len16 s i w (mkOf ms) k
  have hsec := rsec_eq R (k := k + 1) (by omega) hi
  have fin : ∀ t : List UInt8, t.length ≤ 200000 → (ref16_Lines_loop3 s ws (i : Int) (k : Int) (fun s7 => (ref14_Behind s (IntKind.wrap .i64 ((k : Int) + 1))).bind fun r5 => (at? r5 (i : Int)).bind fun x2 => (ref16_rest x2).bind fun r6 => (catO s7 r6).bind fun s8 => ref16_Lines_loop2 s (i : Int) K ws (m + 1) s8 (IntKind.wrap .i64 ((k : Int) + 1))) 3 t 0)
   = ref16_Lines_loop2 s (i : Int) K ws (m + 1) (t ++ List.replicate (w k) (fB s k i) ++ [sB s k i]) (((k + 1 : Nat) : Nat) : Int) := fun t ht => by
   refine Eq.trans (rLines3 s R ws i k (w k) hk hi hw1 (by omega) _ (w k) 0 3 t (by omega) (by omega) (by omega)) ?_
   rw [wrapN k (by omega)]
   have e : ∀ G : List UInt8 → Option (List (List UInt8)), ((ref14_Behind s ((k + 1 : Nat) : Int)).bind fun r5 => (at? r5 (i : Int)).bind fun x2 => (ref16_rest x2).bind fun r6 => G r6) = G [sB s k i] := fun G => by
    have := congrArg (fun o => Option.bind o G) hsec
    rw [Option.bind_some] at this
    refine Eq.trans ?_ this
    simp only [Option.bind_assoc]
   rw [e (fun r6 => (catO (t ++ List.replicate (w k) (fB s k i)) r6).bind fun s8 => ref16_Lines_loop2 s (i : Int) K ws (m + 1) s8 ((k + 1 : Nat) : Int)), catO_small (by simp; omega), Option.bind_some]
  rw [ref16_Lines_loop2, if_pos (by rw [decide_eq_true_eq]; omega)]
  unfold joinK
  dsimp only
  rw [common_eq _ _ (by simp), Option.bind_some, same_common, Option.bind_some, ← ih, lineW_succ]
  by_cases hc : (k : Int) ∈ ([] : List Int)
  · rw [if_pos (by simpa using hc), catO_small (by simp; omega), Option.bind_some]
    refine Eq.trans (fin _ (by simp; omega)) ?_
    congr 1
    rw [blk, if_pos (by simpa [mkOf] using (List.not_mem_nil hc).elim)]
    simp
  · rw [if_neg (by simpa using hc)]
    refine Eq.trans (fin _ (by omega)) ?_
    congr 1
    rw [blk, if_neg (by simp [mkOf, hm0])]
    simp
theorem rLines1 (s : Sequence) (R : RightS s) (ws ms : List Int) (w : Nat → Nat) (hw : ∀ k < s.steps.length, at? ws (k : Int) = some (w k : Int) ∧ w k ≤ 1) (hS : sumW w s.steps.length ≤ 100000) (hm : ms.length ≤ 100000) (hm0 : ms = []) (K : List (List UInt8) → Option (List (List UInt8))) : ∀ (m i : Nat), i + m = s.actuators.toNat →
 ref16_Lines_loop1 s K ws (m + 1) (i : Int) (linesW s w (mkOf ms) i) = K (linesW s w (mkOf ms) s.actuators.toNat)
 | 0, i, h => by
  rw [ref16_Lines_loop1, if_neg (by rw [decide_eq_true_eq]; omega), show i = s.actuators.toNat by omega]
 | m + 1, i, h => by
  have hi : i < s.actuators.toNat := by omega
  have hl1 := R.l1
  have n1 := R.n1
  have ih := rLines1 s R ws ms w hw hS hm hm0 K m (i + 1) (by omega)
  rw [ref16_Lines_loop1, if_pos (by rw [decide_eq_true_eq]; omega)]
  unfold joinK
  dsimp only
  rw [name_eq (by omega), Option.bind_some, catO_small (by simp), Option.bind_some, fuel0]
  refine Eq.trans (rLines2 s R ws ms w hw hS i hi hm hm0 _ s.steps.length 0 (by omega)) ?_
  rw [appO_ok (by simp [linesW_len]; omega) (by decide), Option.bind_some, wrapN i (by omega), ← ih, linesW_succ]

theorem rdrawn_eq (s : Sequence) (R : RightS s) (ws ms : List Int) (w : Nat → Nat) (hw : ∀ k < s.steps.length, at? ws (k : Int) = some (w k : Int) ∧ w k ≤ 4096) (hS : sumW w s.steps.length ≤ 100000) (hm : ms.length ≤ 100000) : ref16_drawn s ws ms = some (linesW s w (mkOf ms) s.actuators.toNat) := by
 unfold ref16_drawn joinK
 dsimp only
 rw [show Int.toNat (s.actuators - 0) = s.actuators.toNat by simp]
 exact rdrawn1 s R ws ms w hw hS hm _ s.actuators.toNat 0 (by omega)
theorem rwaits_loop (s : Sequence) (hl : s.steps.length ≤ 1000) : ∀ (r pre : List Step), s.steps = pre ++ r → ref16_Waits_loop1 s (some false) (r.length + 1) (pre.length : Int) = some (r.any fun x => x.wait != 0)
 | [], pre, e => by
  rw [ref16_Waits_loop1, end_mid e]
  rfl
 | y :: r, pre, e => by
  obtain ⟨h1, h2, h3, h4, h5⟩ := step_mid e (by omega)
  have ih := rwaits_loop s hl r (pre ++ [y]) h4
  rw [ref16_Waits_loop1, h1, if_pos rfl, h2, Option.bind_some, h3, List.length_cons, ih, List.any_cons]
  cases hv : (y.wait != 0) <;> simp
theorem rwaits_eq (s : Sequence) (hl : s.steps.length ≤ 1000) : ref16_Waits s = some (waitsB s) := by
 unfold ref16_Waits joinK
 dsimp only
 rw [fuel0]
 exact rwaits_loop s hl s.steps [] rfl
theorem rdig_loop (k : List UInt8 → Option (List UInt8)) : ∀ (m n : Nat) (s : List UInt8), n + 1 ≤ m → s.length + n ≤ 4000000 → ref12_Digits_loop1 k m (n : Int) s = k (if n = 0 then s else Lib.decDigits n ++ s)
 | 0, n, s, h, _ => by omega
 | m + 1, n, s, h, hs => by
  unfold ref12_Digits_loop1
  by_cases h0 : n = 0
  · subst h0
    simp
  · rw [if_pos (by rw [decide_eq_true_eq]; omega), tmod_nat, cut_digit ⟨n % 10, by omega⟩, tdiv_nat]
    simp only [Option.bind_some]
    rw [catO_small (by simp; omega), wrap64 (by omega) (by omega)]
    simp only [Option.bind_some]
    rw [rdig_loop k m (n / 10) _ (by omega) (by simp; omega), if_neg h0]
    by_cases h1 : n / 10 = 0
    · rw [if_pos h1, dec_small (by omega), show n % 10 = n by omega]
    · have hd : Lib.decDigits n = Lib.decDigits (n / 10) ++ [UInt8.ofNat (48 + n % 10)] := dec_big (by omega)
      rw [if_neg h1, hd, List.append_assoc]
theorem rdig_eq {n : Int} (h0 : 0 ≤ n) (h : n ≤ 1000000) : ref12_Digits n = some (decT n) := by
 obtain ⟨k, rfl⟩ : ∃ m : Nat, n = (m : Int) := ⟨n.toNat, by omega⟩
 unfold ref12_Digits joinK decT
 dsimp only
 rw [Int.toNat_natCast, tmod_nat, cut_digit ⟨k % 10, by omega⟩, tdiv_nat]
 simp only [Option.bind_some]
 rw [wrap64 (by omega) (by omega), rdig_loop _ (k + 2) (k / 10) _ (by omega) (by simp; omega)]
 by_cases h1 : k / 10 = 0
 · rw [if_pos h1, dec_small (by omega), show k % 10 = k by omega]
 · have hd : Lib.decDigits k = Lib.decDigits (k / 10) ++ [UInt8.ofNat (48 + k % 10)] := dec_big (by omega)
   rw [if_neg h1, hd]
theorem rline4 (s : Sequence) (K : List UInt8 → Option (List (List UInt8))) (hl : s.steps.length ≤ 1000) (hw : ∀ x ∈ s.steps, 0 ≤ x.wait ∧ x.wait ≤ 1000000) : ∀ (r pre : List Step), s.steps = pre ++ r →
 ref16_Lines_loop4 s K (r.length + 1) (lineT pre) (pre.length : Int) = K (lineT s.steps)
 | [], pre, e => by
  rw [ref16_Lines_loop4, end_mid e, if_neg (by simp), e]
  simp
 | y :: r, pre, e => by
  obtain ⟨h1, h2, h3, h4, h5⟩ := step_mid e (by omega)
  have hy := hw y (by rw [e]; simp)
  have ih := rline4 s K hl hw r (pre ++ [y]) h4
  have q1 := decT_len hy.1 hy.2
  have q2 := lineT_len pre (fun z hz => hw z (by rw [e]; simp [hz]))
  rw [ref16_Lines_loop4, h1, if_pos rfl, h2, Option.bind_some, rdig_eq hy.1 hy.2, Option.bind_some, catO_small (by simp; omega), Option.bind_some, catO_small (by simp; omega), Option.bind_some, h3, List.length_cons, ← ih, lineT_snoc]
  rfl
theorem rlines_eq (s : Sequence) (R : RightS s) : ref16_Lines s = some (drawS s) := by
 have hl1 := R.l1
 have n1 := R.n1
 unfold ref16_Lines joinK
 dsimp only
 rw [ones_eq _ (by omega), Option.bind_some, show Int.toNat (s.actuators - 0) = s.actuators.toNat by simp]
 refine Eq.trans (rLines1 s R (List.replicate s.steps.length 1) [] (fun _ => 1) (fun k hk => ⟨ones_at _ k hk, by omega⟩) (by rw [sum_one]; omega) (by simp) rfl _ s.actuators.toNat 0 (by omega)) ?_
 rw [rwaits_eq s (by omega), Option.bind_some, drawS, mkOf_nil]
 cases hw : waitsB s
 · rw [if_pos (by decide), if_neg (by decide), List.append_nil]
 · rw [if_neg (by decide), if_pos rfl, fuel0]
   refine Eq.trans (rline4 s _ (by omega) (right_wait R) s.steps [] rfl) ?_
   rw [appO_ok (by rw [linesW_len]; simp; omega) (by decide), Option.bind_some]
def drawR (s : Sequence) : List (List UInt8) × Int := if checkE s ≠ 0 then ([], checkE s) else (drawS s, 0)
theorem rDraw_eq (s : Sequence) : ref16_Draw s = some (drawR s) := by
 unfold ref16_Draw drawR
 rw [rcheck14, Option.bind_some]
 by_cases h : checkE s = 0
 · rw [if_neg (by simpa using h), if_neg (fun q => q h), rlines_eq s (checkE_zero h)]
   rfl
 · rw [if_pos (by simpa using h), if_pos h]
theorem awake16 : law16_awake = some true := by kernel_rfl
theorem drawS_len (s : Sequence) (h : s.actuators ≤ 6) : (drawS s).length ≤ 7 := by
 rw [drawS, List.length_append, linesW_len]
 split <;> simp <;> omega
theorem way_of_mem : ∀ {r : List Stroke} {last : Int}, Asc last r → ∀ y ∈ r, wayS y.actuator r = if y.out = true then 1 else -1
 | [], _, _, y, hy => by simp at hy
 | z :: r, last, h, y, hy => by
  obtain ⟨h0, h1, h2, h3⟩ := h
  rw [wayS]
  rcases List.mem_cons.1 hy with rfl | hy
  · rw [if_pos rfl]
  · have := (asc_mem h3 y hy).2.2
    rw [if_neg (by omega)]
    exact way_of_mem h3 y hy
theorem fB_enc (s : Sequence) (k i : Nat) : (Utf8.encode (IntKind.wrap .i32 ((fB s k i).toNat : Int))).data.toList = [fB s k i] := by
 unfold fB restB
 split
 · decide +kernel
 · split
   · decide +kernel
   · split <;> decide +kernel
theorem rep_one (b : UInt8) (n : Nat) : Lib.repeatL [b] n = List.replicate n b := by
 induction n with
 | zero => rfl
 | succ n ih => rw [List.replicate_succ, ← ih]; rfl
theorem lst2 (s : Sequence) (R : RightS s) (cs : List Int) (w : Nat → Nat) (hw : ∀ k < s.steps.length, at? cs (k : Int) = some (w k : Int)) (hS : sumW w s.steps.length ≤ 100000) (i : Nat) (hi : i < s.actuators.toNat) (K : List UInt8 → Option (List (List UInt8))) : ∀ (m k : Nat), k + m = s.steps.length →
 diagram_stretched_loop2 cs (colAt s i s.steps.length) K (m + 1) (k : Int) (lineW s i w (fun _ => false) k) = K (lineW s i w (fun _ => false) s.steps.length)
 | 0, k, h => by
  rw [diagram_stretched_loop2, if_neg (by rw [decide_eq_true_eq, colAt_len]; omega), show k = s.steps.length by omega]
 | m + 1, k, h => by
  have hk : k < s.steps.length := by omega
  have hl1 := R.l1
  have ih := lst2 s R cs w hw hS i hi K m (k + 1) (by omega)
  have hlen := line_len16 s i w (fun _ => false) k
  have hsm2 := sum_mono w (show k + 1 ≤ s.steps.length by omega)
  rw [sumW] at hsm2
  have hrep : repS [fB s k i] (w k : Int) = some (List.replicate (w k) (fB s k i)) := by
   unfold repS
   rw [if_pos ⟨by omega, by omega, by simp; omega⟩, Int.toNat_natCast, rep_one]
  obtain ⟨g2, b2⟩ := byte_back (sB s k i)
  rw [diagram_stretched_loop2, if_pos (by rw [decide_eq_true_eq, colAt_len]; omega), col_at R hk hi, Option.bind_some, hw k hk, Option.bind_some]
  unfold guardO
  dsimp only
  rw [fB_enc, hrep, Option.bind_some, appO_ok (by simp; omega) (by decide), Option.bind_some, if_pos g2, Option.bind_some, b2, appO_ok (by simp; omega) (by decide), Option.bind_some, wrapN k (by omega), ← ih, lineW_succ]
  congr 1
  simp [blk]
theorem lst1 (s : Sequence) (R : RightS s) (cs : List Int) (w : Nat → Nat) (hw : ∀ k < s.steps.length, at? cs (k : Int) = some (w k : Int)) (hS : sumW w s.steps.length ≤ 100000) (K : List (List UInt8) → Option (List (List UInt8))) : ∀ (m i : Nat), i + m = s.actuators.toNat →
 diagram_stretched_loop1 K (cellsS s) cs (m + 1) (i : Int) (linesW s w (fun _ => false) i) = K (linesW s w (fun _ => false) s.actuators.toNat)
 | 0, i, h => by
  rw [diagram_stretched_loop1, if_neg (by rw [decide_eq_true_eq, cellsS_len]; omega), show i = s.actuators.toNat by omega]
 | m + 1, i, h => by
  have hi : i < s.actuators.toNat := by omega
  have n1 := R.n1
  have ih := lst1 s R cs w hw hS K m (i + 1) (by omega)
  rw [diagram_stretched_loop1, if_pos (by rw [decide_eq_true_eq, cellsS_len]; omega)]
  unfold joinK
  dsimp only
  rw [cells_at hi, Option.bind_some, letter_eq (by omega), Option.bind_some, catO_small (by simp), Option.bind_some, appO_ok (by simp) (by decide), Option.bind_some, fuel0, colAt_len]
  refine Eq.trans (lst2 s R cs w hw hS i hi _ s.steps.length 0 (by omega)) ?_
  rw [appO_ok (by simp [linesW_len]; omega) (by decide), Option.bind_some, wrapN i (by omega), ← ih, linesW_succ]
theorem lst_eq (s : Sequence) (R : RightS s) (cs : List Int) (w : Nat → Nat) (hw : ∀ k < s.steps.length, at? cs (k : Int) = some (w k : Int)) (hS : sumW w s.steps.length ≤ 100000) : diagram_stretched s cs = some (linesW s w (fun _ => false) s.actuators.toNat) := by
 unfold diagram_stretched joinK
 dsimp only
 rw [cells_eq s R, Option.bind_some, fuel0, cellsS_len]
 exact lst1 s R cs w hw hS _ s.actuators.toNat 0 (by omega)
def wsum (l : List Int) : Int := (l.map fun x => x + 1).sum
theorem wsum_snoc (l : List Int) (x : Int) : wsum (l ++ [x]) = wsum l + (x + 1) := by simp [wsum]
theorem wsum_app (a b : List Int) : wsum (a ++ b) = wsum a + wsum b := by simp [wsum]
def wAt (ws : List Int) (k : Nat) : Nat := (ws[k]?.getD 0).toNat
theorem wAt_at {ws : List Int} (hw : ∀ x ∈ ws, 0 ≤ x) {k : Nat} (h : k < ws.length) : at? ws (k : Int) = some (wAt ws k : Int) := by
 have := hw ws[k] (List.getElem_mem h)
 rw [at_nat h, wAt, List.getElem?_eq_getElem h]
 simp
 omega
theorem sum_wAt : ∀ (ws : List Int), (∀ x ∈ ws, 1 ≤ x) → ∀ k ≤ ws.length, (sumW (wAt ws) k : Int) + k ≤ wsum ws
 | ws, hw, 0, _ => by
  simp only [sumW]
  have : ∀ l : List Int, (∀ x ∈ l, 1 ≤ x) → 0 ≤ wsum l := fun l => by
   induction l with
   | nil => simp [wsum]
   | cons x l ih =>
    intro h
    have h1 := ih (fun y hy => h y (by simp [hy]))
    have h2 := h x (by simp)
    have : wsum (x :: l) = (x + 1) + wsum l := by simp [wsum]
    omega
  have := this ws hw
  omega
 | ws, hw, k + 1, hk => by
  have e : ws = ws.take k ++ ws[k] :: ws.drop (k + 1) := by rw [← List.drop_eq_getElem_cons (by omega), List.take_append_drop]
  have hlt : k < ws.length := by omega
  have h1 := hw ws[k] (List.getElem_mem hlt)
  have key : ∀ (k : Nat), k ≤ ws.length → (sumW (wAt ws) k : Int) + k = wsum (ws.take k) := fun k => by
   induction k with
   | zero => intro _; simp [sumW, wsum]
   | succ k ih =>
    intro hk
    have hlt : k < ws.length := by omega
    have h1 := hw ws[k] (List.getElem_mem hlt)
    have h2 := ih (by omega)
    rw [List.take_succ_eq_append_getElem hlt, wsum_snoc, sumW, ← h2, wAt, List.getElem?_eq_getElem hlt]
    simp
    omega
  have h3 := key (k + 1) hk
  have h4 : wsum ws = wsum (ws.take (k + 1)) + wsum (ws.drop (k + 1)) := by
   have := wsum_app (ws.take (k + 1)) (ws.drop (k + 1))
   rw [List.take_append_drop] at this
   exact this
  have h5 : ∀ l : List Int, (∀ x ∈ l, 1 ≤ x) → 0 ≤ wsum l := fun l => by
   induction l with
   | nil => simp [wsum]
   | cons x l ih =>
    intro h
    have h1 := ih (fun y hy => h y (by simp [hy]))
    have h2 := h x (by simp)
    have : wsum (x :: l) = (x + 1) + wsum l := by simp [wsum]
    omega
  have h6 := h5 (ws.drop (k + 1)) (fun x hx => hw x (List.mem_of_mem_drop hx))
  omega
def joinT : List (List UInt8) → List UInt8
 | [] => []
 | a :: r => if r = [] then a else a ++ 32 :: joinT r
def fieldsGo (last : List UInt8) (acc : List (List UInt8)) : List UInt8 → List (List UInt8)
 | [] => if last = [] then acc else acc ++ [last]
 | b :: r => if b = 32 then fieldsGo [] (if last = [] then acc else acc ++ [last]) r else fieldsGo (last ++ [b]) acc r
theorem fields_len : ∀ (r last : List UInt8) (acc : List (List UInt8)) (n : Nat), (∀ t ∈ acc, t.length ≤ n) → last.length + r.length ≤ n → ∀ t ∈ fieldsGo last acc r, t.length ≤ n
 | [], last, acc, n, h, hl, t, ht => by
  rw [fieldsGo] at ht
  split at ht
  · exact h t ht
  · rcases List.mem_append.1 ht with ht | ht
    · exact h t ht
    · rw [List.mem_singleton.1 ht]; simp at hl; omega
 | b :: r, last, acc, n, h, hl, t, ht => by
  rw [List.length_cons] at hl
  rw [fieldsGo] at ht
  split at ht
  · refine fields_len r [] _ n (fun u hu => ?_) (by simp; omega) t ht
    split at hu
    · exact h u hu
    · rcases List.mem_append.1 hu with hu | hu
      · exact h u hu
      · rw [List.mem_singleton.1 hu]; omega
  · exact fields_len r (last ++ [b]) acc n h (by simp; omega) t ht
theorem fields_loop (s : List UInt8) (k : List (List UInt8) → Option (List (List UInt8))) (hb : s.length ≤ 1000000) : ∀ (r pre last : List UInt8) (acc : List (List UInt8)), s = pre ++ r → last.length ≤ pre.length → acc.length ≤ pre.length →
 ref12_Fields_loop1 s k (r.length + 2) last (pre.length : Int) acc = k (fieldsGo last acc r)
 | [], pre, last, acc, e, h1, h2 => by
  have hlen : s.length = pre.length := by rw [e]; simp
  have c1 : decide ((pre.length : Int) ≤ (s.length : Int)) = true := decide_eq_true (by omega)
  have c2 : decide ((pre.length : Int) < (s.length : Int)) = false := decide_eq_false (by omega)
  have c3 : decide (IntKind.wrap .i64 ((pre.length : Int) + 1) ≤ (s.length : Int)) = false := by
   rw [wrap64 (by omega) (by omega)]; exact decide_eq_false (by omega)
  rw [List.length_nil]
  unfold ref12_Fields_loop1 joinK
  simp only [c1, c2, if_true, Bool.false_eq_true, if_false, Option.bind_some]
  rw [fieldsGo]
  by_cases hl : last = []
  · subst hl
    simp [ref12_Fields_loop1, c3]
  · have q : (!(last == [])) = true := by simpa using hl
    rw [if_pos q, if_neg hl, appO_ok (by simp; omega) (by decide), Option.bind_some]
    simp [ref12_Fields_loop1, c3]
 | b :: r, pre, last, acc, e, h1, h2 => by
  have hlen : s.length = pre.length + (r.length + 1) := by rw [e]; simp
  have c1 : decide ((pre.length : Int) ≤ (s.length : Int)) = true := decide_eq_true (by omega)
  have c2 : decide ((pre.length : Int) < (s.length : Int)) = true := decide_eq_true (by omega)
  have hby : byteAt s (pre.length : Int) = some b := by rw [e]; exact byteAt_mid
  have w : IntKind.wrap .i64 ((pre.length : Int) + 1) = (((pre ++ [b]).length : Nat) : Int) := by rw [wrap64 (by omega) (by omega)]; simp
  have hc : cut s (pre.length : Int) (((pre ++ [b]).length : Nat) : Int) = some [b] := by
   unfold cut
   rw [if_pos ⟨by omega, by simp only [List.length_append, List.length_singleton]; omega, by simp only [List.length_append, List.length_singleton]; omega⟩, e]
   simp
  have c4 : ((b.toNat : Int) != 32) = !(decide (b = 32)) := by
   rw [Bool.eq_iff_iff, bne_iff_ne, Bool.not_eq_true', decide_eq_false_iff_not]
   constructor
   · intro h q; rw [q] at h; exact h rfl
   · intro h q; exact h (UInt8.toNat_inj.1 (by have : (32 : UInt8).toNat = 32 := rfl; omega))
  rw [List.length_cons]
  unfold ref12_Fields_loop1 joinK
  simp only [c1, c2, if_true, hby, Option.bind_some, c4, w, hc]
  rw [fieldsGo]
  by_cases h32 : b = 32
  · simp only [h32, decide_true, Bool.not_true, Bool.false_eq_true, if_false, if_true]
    subst h32
    by_cases hl : last = []
    · subst hl
      simp only [BEq.rfl, Bool.not_true, Bool.false_eq_true, if_false, if_true]
      exact fields_loop s k hb r (pre ++ [32]) [] acc (by rw [e, mid_cons]) (by simp) (by simp; omega)
    · have q : (!(last == [])) = true := by simpa using hl
      rw [if_pos q, if_neg hl, appO_ok (by simp; omega) (by decide), Option.bind_some]
      exact fields_loop s k hb r (pre ++ [32]) [] (acc ++ [last]) (by rw [e, mid_cons]) (by simp) (by simp; omega)
  · simp only [decide_eq_false h32, Bool.not_false, if_true, if_neg h32]
    rw [catO_small (by simp; omega), Option.bind_some]
    exact fields_loop s k hb r (pre ++ [b]) (last ++ [b]) acc (by rw [e, mid_cons]) (by simp; omega) (by simp; omega)
theorem fields_eq (s : List UInt8) (hb : s.length ≤ 1000000) : ref12_Fields s = some (fieldsGo [] [] s) := by
 unfold ref12_Fields joinK
 have := fields_loop s (fun l5 => some l5) hb s [] [] [] rfl (by simp) (by simp)
 simpa using this
theorem fields_run (acc : List (List UInt8)) (r : List UInt8) : ∀ (a last : List UInt8), (32 : UInt8) ∉ a → fieldsGo last acc (a ++ r) = fieldsGo (last ++ a) acc r
 | [], last, _ => by simp
 | b :: a, last, h => by
  have hb : b ≠ 32 := fun q => h (by rw [q]; simp)
  have ha : (32 : UInt8) ∉ a := fun q => h (by simp [q])
  rw [List.cons_append, fieldsGo, if_neg hb, fields_run acc r a (last ++ [b]) ha]
  simp
theorem fields_join : ∀ (l acc : List (List UInt8)), (∀ t ∈ l, (32 : UInt8) ∉ t ∧ t ≠ []) → fieldsGo [] acc (joinT l) = acc ++ l
 | [], acc, _ => by simp [joinT, fieldsGo]
 | [a], acc, h => by
  obtain ⟨h1, h2⟩ := h a (by simp)
  have := fields_run acc [] a [] h1
  rw [joinT, if_pos rfl]
  rw [List.append_nil] at this
  rw [this, List.nil_append, fieldsGo, if_neg h2]
 | a :: b :: r, acc, h => by
  obtain ⟨h1, h2⟩ := h a (by simp)
  rw [joinT, if_neg (by simp), fields_run acc _ a [] h1, List.nil_append, fieldsGo, if_pos rfl, if_neg h2, fields_join (b :: r) (acc ++ [a]) (fun t ht => h t (by simp at ht ⊢; exact .inr ht))]
  simp
theorem eqTl_loop (a b : List (List UInt8)) (hl : a.length = b.length) (hb : a.length ≤ 100000) : ∀ (r q pre pre2 : List (List UInt8)), a = pre ++ r → b = pre2 ++ q → pre.length = pre2.length → slices_Equal_stringstring_loop1 a b (some true) (r.length + 1) (pre.length : Int) = some (decide (r = q))
 | [], q, pre, pre2, e, e2, hp => by
  have : q = [] := by
   have h1 : a.length = pre.length := by rw [e]; simp
   have h2 : b.length = pre2.length + q.length := by rw [e2]; simp
   exact List.length_eq_zero_iff.1 (by omega)
  subst this
  rw [slices_Equal_stringstring_loop1, end_mid e, if_neg (by simp)]
  rfl
 | x :: r, q, pre, pre2, e, e2, hp => by
  obtain ⟨h1, h2, h3, h4, h5⟩ := step_mid e (by omega)
  cases q with
  | nil =>
   have h6 : b.length = pre2.length := by rw [e2]; simp
   omega
  | cons y q =>
   have hy : at? b (pre.length : Int) = some y := by rw [hp, e2]; exact at?_mid
   have ih1 := eqTl_loop a b hl hb r q (pre ++ [x]) (pre2 ++ [y]) h4 (by rw [e2]; simp) (by simp [hp])
   rw [slices_Equal_stringstring_loop1, h1, if_pos rfl, h2, Option.bind_some, hy, Option.bind_some, h3, List.length_cons, ih1]
   by_cases hxy : x = y
   · subst hxy
     rw [if_neg (by simp)]
     simp
   · rw [if_pos (by simpa using hxy)]
     simp [hxy]
theorem eqTl (a b : List (List UInt8)) (hb : a.length ≤ 100000) : slices_Equal_stringstring a b = some (decide (a = b)) := by
 unfold slices_Equal_stringstring joinK
 dsimp only
 by_cases hl : a.length = b.length
 · rw [if_neg (by simp; omega), fuel0]
   exact eqTl_loop a b hl hb a b [] [] rfl rfl rfl
 · have : ¬ a = b := fun q => hl (by rw [q])
   rw [if_pos (by simp; omega), decide_eq_false this]
theorem eqTr_loop (a b : List (List UInt8)) (hl : a.length = b.length) (hb : a.length ≤ 100000) : ∀ (r q pre pre2 : List (List UInt8)), a = pre ++ r → b = pre2 ++ q → pre.length = pre2.length → ref12_SameTexts_loop1 a b (some true) (r.length + 1) (pre.length : Int) = some (decide (r = q))
 | [], q, pre, pre2, e, e2, hp => by
  have : q = [] := by
   have h1 : a.length = pre.length := by rw [e]; simp
   have h2 : b.length = pre2.length + q.length := by rw [e2]; simp
   exact List.length_eq_zero_iff.1 (by omega)
  subst this
  rw [ref12_SameTexts_loop1, end_mid e, if_neg (by simp)]
  rfl
 | x :: r, q, pre, pre2, e, e2, hp => by
  obtain ⟨h1, h2, h3, h4, h5⟩ := step_mid e (by omega)
  cases q with
  | nil =>
   have h6 : b.length = pre2.length := by rw [e2]; simp
   omega
  | cons y q =>
   have hy : at? b (pre.length : Int) = some y := by rw [hp, e2]; exact at?_mid
   have ih1 := eqTr_loop a b hl hb r q (pre ++ [x]) (pre2 ++ [y]) h4 (by rw [e2]; simp) (by simp [hp])
   rw [ref12_SameTexts_loop1, h1, if_pos rfl, h2, Option.bind_some, hy, Option.bind_some, h3, List.length_cons, ih1]
   by_cases hxy : x = y
   · subst hxy
     rw [if_neg (by simp)]
     simp
   · rw [if_pos (by simpa using hxy)]
     simp [hxy]
theorem eqTr (a b : List (List UInt8)) (hb : a.length ≤ 100000) : ref12_SameTexts a b = some (decide (a = b)) := by
 unfold ref12_SameTexts joinK
 dsimp only
 by_cases hl : a.length = b.length
 · rw [if_neg (by simp; omega), fuel0]
   exact eqTr_loop a b hl hb a b [] [] rfl rfl rfl
 · have : ¬ a = b := fun q => hl (by rw [q])
   rw [if_pos (by simp; omega), decide_eq_false this]
theorem same16 (a : Sequence) (h1 : a.steps.length ≤ 100000) (h2 : ∀ x ∈ a.steps, x.strokes.length ≤ 100000) : ref14_Same a a = some true := by
 unfold ref14_Same
 rw [if_pos (by simp), sameL_eq a.steps h1 h2]
 rfl
def mv1 (i : Nat) (b : UInt8) : List Stroke := if b = 47 then [⟨i, true⟩] else if b = 92 then [⟨i, false⟩] else []
def mvs (a : Nat) : Nat → List (List UInt8) → List Stroke
 | _, [] => []
 | i, x :: r => (match x[a]? with | none => [] | some b => mv1 i b) ++ mvs a (i + 1) r
theorem going_all : ((List.range 256).all fun n => slices_Index_bytebyte diag_going (n : Int) == some (if n = 92 then 0 else if n = 47 then 1 else -1)) = true := by kernel_rfl
theorem going_eq (b : UInt8) : slices_Index_bytebyte diag_going (b.toNat : Int) = some (if b = 92 then 0 else if b = 47 then 1 else -1) := by
 have h := List.all_eq_true.1 going_all b.toNat (List.mem_range.2 b.toNat_lt)
 rw [beq_iff_eq] at h
 rw [h]
 have e1 : (b.toNat = 92) = (b = 92) := by rw [← UInt8.toNat_inj]; rfl
 have e2 : (b.toNat = 47) = (b = 47) := by rw [← UInt8.toNat_inj]; rfl
 simp only [e1, e2]
theorem byteAt_nat {x : List UInt8} {a : Nat} (h : a < x.length) : byteAt x (a : Int) = some x[a] := by
 unfold byteAt
 rw [if_pos (by omega)]
 simp [h]
theorem lmv_read (l2 : List (List UInt8)) (a : Nat) (hl : l2.length ≤ 1000) (K : List Stroke → Option (Sequence × Int)) : ∀ (r pre : List (List UInt8)) (acc : List Stroke), l2 = pre ++ r → acc.length ≤ pre.length →
 diagram_Read_loop2 l2 (a : Int) K (r.length + 1) (pre.length : Int) acc = K (acc ++ mvs a pre.length r)
 | [], pre, acc, e, hc => by
  rw [diagram_Read_loop2, end_mid e, if_neg (by simp), mvs, List.append_nil]
 | y :: r, pre, acc, e, hc => by
  obtain ⟨h1, h2, h3, h4, h5⟩ := step_mid e (by omega)
  have ih := fun acc2 => lmv_read l2 a hl K r (pre ++ [y]) acc2 h4
  rw [show (pre ++ [y]).length = pre.length + 1 by simp] at ih
  rw [diagram_Read_loop2, h1, if_pos rfl]
  unfold joinK
  dsimp only
  rw [h2, Option.bind_some, wrapN pre.length (by omega), List.length_cons, mvs]
  by_cases ha : a < y.length
  · rw [if_neg (by simp; omega), byteAt_nat ha, Option.bind_some, going_eq, Option.bind_some, List.getElem?_eq_getElem ha]
    dsimp only
    unfold mv1
    by_cases h92 : y[a] = 92
    · rw [h92, if_pos rfl, if_pos (by decide), appO_ok (by simp; omega) (by decide), Option.bind_some, ih _ (by simp; omega), if_neg (by decide), if_pos rfl, List.append_assoc]
      rfl
    · rw [if_neg h92]
      by_cases h47 : y[a] = 47
      · rw [h47, if_pos rfl, if_pos (by decide), appO_ok (by simp; omega) (by decide), Option.bind_some, ih _ (by simp; omega), if_pos rfl, List.append_assoc]
        rfl
      · rw [if_neg h47, if_neg (by decide), ih _ (by omega), if_neg h47, if_neg h92, List.nil_append]
  · rw [if_pos (by simp; omega), ih _ (by omega), List.getElem?_eq_none (by omega)]
    rfl
theorem lmv_un (l2 : List (List UInt8)) (a : Nat) (hl : l2.length ≤ 1000) (K : List Stroke → Option (Sequence × List Int × Int)) : ∀ (r pre : List (List UInt8)) (acc : List Stroke), l2 = pre ++ r → acc.length ≤ pre.length →
 diagram_Unscale_loop2 l2 a K (r.length + 1) (pre.length : Int) acc = K (acc ++ mvs a pre.length r)
 | [], pre, acc, e, hc => by
  rw [diagram_Unscale_loop2, end_mid e, if_neg (by simp), mvs, List.append_nil]
 | y :: r, pre, acc, e, hc => by
  obtain ⟨h1, h2, h3, h4, h5⟩ := step_mid e (by omega)
  have ih := fun acc2 => lmv_un l2 a hl K r (pre ++ [y]) acc2 h4
  rw [show (pre ++ [y]).length = pre.length + 1 by simp] at ih
  rw [diagram_Unscale_loop2, h1, if_pos rfl]
  unfold joinK
  dsimp only
  rw [h2, Option.bind_some, wrapN pre.length (by omega), List.length_cons, mvs]
  by_cases ha : a < y.length
  · rw [if_neg (by simp; omega), byteAt_nat ha, Option.bind_some, going_eq, Option.bind_some, List.getElem?_eq_getElem ha]
    dsimp only
    unfold mv1
    by_cases h92 : y[a] = 92
    · rw [h92, if_pos rfl, if_pos (by decide), appO_ok (by simp; omega) (by decide), Option.bind_some, ih _ (by simp; omega), if_neg (by decide), if_pos rfl, List.append_assoc]
      rfl
    · rw [if_neg h92]
      by_cases h47 : y[a] = 47
      · rw [h47, if_pos rfl, if_pos (by decide), appO_ok (by simp; omega) (by decide), Option.bind_some, ih _ (by simp; omega), if_pos rfl, List.append_assoc]
        rfl
      · rw [if_neg h47, if_neg (by decide), ih _ (by omega), if_neg h47, if_neg h92, List.nil_append]
  · rw [if_pos (by simp; omega), ih _ (by omega), List.getElem?_eq_none (by omega)]
    rfl
theorem byte47 (b : UInt8) : ((b.toNat : Int) == 47) = (b == 47) := by
 rw [Bool.eq_iff_iff, beq_iff_eq, beq_iff_eq]
 exact ⟨fun h => UInt8.toNat_inj.1 (by have : (47 : UInt8).toNat = 47 := rfl; omega), fun h => by rw [h]; rfl⟩
theorem byte92 (b : UInt8) : ((b.toNat : Int) == 92) = (b == 92) := by
 rw [Bool.eq_iff_iff, beq_iff_eq, beq_iff_eq]
 exact ⟨fun h => UInt8.toNat_inj.1 (by have : (92 : UInt8).toNat = 92 := rfl; omega), fun h => by rw [h]; rfl⟩
theorem rmv_loop (l2 : List (List UInt8)) (a : Nat) (hl : l2.length ≤ 1000) (K : List Stroke → Option Step) : ∀ (r pre : List (List UInt8)) (acc : List Stroke), l2 = pre ++ r → acc.length ≤ pre.length →
 ref16_moved_loop1 l2 (a : Int) K (r.length + 1) (pre.length : Int) acc = K (acc ++ mvs a pre.length r)
 | [], pre, acc, e, hc => by
  rw [ref16_moved_loop1, end_mid e, if_neg (by simp), mvs, List.append_nil]
 | y :: r, pre, acc, e, hc => by
  obtain ⟨h1, h2, h3, h4, h5⟩ := step_mid e (by omega)
  have ih := fun acc2 => rmv_loop l2 a hl K r (pre ++ [y]) acc2 h4
  rw [show (pre ++ [y]).length = pre.length + 1 by simp] at ih
  rw [ref16_moved_loop1, h1, if_pos rfl]
  unfold joinK
  dsimp only
  simp only [h2, Option.bind_some]
  rw [wrapN pre.length (by omega), List.length_cons, mvs]
  by_cases ha : a < y.length
  · rw [if_pos (by simpa using ha), byteAt_nat ha, List.getElem?_eq_getElem ha]
    simp only [Option.bind_some, byte47, byte92]
    unfold mv1
    by_cases h47 : y[a] = 47
    · rw [h47, if_pos (by decide), Option.bind_some, Option.bind_some, if_pos rfl, appO_ok (by simp; omega) (by decide), Option.bind_some, ih _ (by simp; omega), if_pos rfl, List.append_assoc]
      rfl
    · rw [if_neg (by simpa using h47), Option.bind_some]
      by_cases h92 : y[a] = 92
      · rw [h92, Option.bind_some, if_pos (by decide), appO_ok (by simp; omega) (by decide), Option.bind_some, ih _ (by simp; omega), if_neg (by decide), if_pos rfl, List.append_assoc]
        rfl
      · rw [Option.bind_some, if_neg (by simpa using h92), ih _ (by omega), if_neg h47, if_neg h92, List.nil_append]
  · rw [if_neg (by simpa using ha), Option.bind_some, if_neg (by decide), ih _ (by omega), List.getElem?_eq_none (by omega)]
    rfl
theorem rmv_eq (l2 : List (List UInt8)) (a : Nat) (hl : l2.length ≤ 1000) : ref16_moved l2 (a : Int) = some ⟨mvs a 0 l2, 0⟩ := by
 unfold ref16_moved joinK
 dsimp only
 rw [fuel0]
 exact rmv_loop l2 a hl _ l2 [] [] rfl (by simp)
theorem mvs_way : ∀ (m lo : Nat) (r : List Stroke) (last : Int), Asc last r → last < (lo : Int) → (∀ y ∈ r, (lo : Int) ≤ y.actuator ∧ y.actuator < ((lo + m : Nat) : Int)) →
 ((List.range' lo m).flatMap fun (i : Nat) => if wayS (i : Int) r = 1 then [(⟨i, true⟩ : Stroke)] else if wayS (i : Int) r = -1 then [⟨i, false⟩] else []) = r
 | 0, lo, r, last, ha, hlo, hr => by
  cases r with
  | nil => rfl
  | cons y r => have := hr y (by simp); omega
 | m + 1, lo, r, last, ha, hlo, hr => by
  rw [List.range'_succ, List.flatMap_cons]
  cases r with
  | nil =>
   have ih := mvs_way m (lo + 1) [] (lo : Int) trivial (by omega) (fun y hy => by simp at hy)
   rw [ih]
   simp [wayS]
  | cons y r =>
   obtain ⟨y0, y1, y2, ha2⟩ := ha
   by_cases hy : y.actuator = (lo : Int)
   · have hr2 : ∀ z ∈ r, ((lo + 1 : Nat) : Int) ≤ z.actuator ∧ z.actuator < ((lo + 1 + m : Nat) : Int) := fun z hz => by
      have h1 := (asc_mem ha2 z hz).2.2
      have h2 := hr z (by simp [hz])
      omega
     have ih := mvs_way m (lo + 1) r (lo : Int) (hy ▸ ha2) (by omega) hr2
     have e : ((List.range' (lo + 1) m).flatMap fun (i : Nat) => if wayS (i : Int) (y :: r) = 1 then [(⟨i, true⟩ : Stroke)] else if wayS (i : Int) (y :: r) = -1 then [⟨i, false⟩] else []) = (List.range' (lo + 1) m).flatMap fun (i : Nat) => if wayS (i : Int) r = 1 then [(⟨i, true⟩ : Stroke)] else if wayS (i : Int) r = -1 then [⟨i, false⟩] else [] := by
      rw [List.flatMap_def, List.flatMap_def]
      congr 1
      refine List.map_congr_left fun i hi => ?_
      rw [List.mem_range'_1] at hi
      have : ¬ y.actuator = (i : Int) := by omega
      rw [wayS, if_neg this]
     rw [e, ih, wayS, if_pos hy]
     obtain ⟨a, o⟩ := y
     dsimp only at hy
     subst hy
     cases o <;> rfl
   · have h1 := hr y (by simp)
     have ih := mvs_way m (lo + 1) (y :: r) (lo : Int) ⟨y0, y1, by omega, ha2⟩ (by omega) (fun z hz => by
      have h2 := hr z hz
      rcases List.mem_cons.1 hz with rfl | hz2
      · omega
      · have := (asc_mem ha2 z hz2).2.2; omega)
     have hw : wayS (lo : Int) (y :: r) = 0 := by
      rw [wayS, if_neg (by omega)]
      exact way_none ha2 (by omega)
     rw [ih, hw]
     rfl
theorem mvs_lines (f : Nat → List UInt8) (a : Nat) : ∀ (m lo : Nat), mvs a lo ((List.range' lo m).map f) = (List.range' lo m).flatMap fun i => match (f i)[a]? with | none => [] | some b => mv1 i b
 | 0, lo => rfl
 | m + 1, lo => by rw [List.range'_succ, List.map_cons, mvs, List.flatMap_cons, mvs_lines f a m (lo + 1)]
theorem mvs_step {s : Sequence} (R : RightS s) (f : Nat → List UInt8) {k a : Nat} (hk : k < s.steps.length) (hf : ∀ i < s.actuators.toNat, (f i)[a]? = some (fB s k i)) : mvs a 0 ((List.range s.actuators.toNat).map f) = (stepAt s k).strokes := by
 obtain ⟨_, hg, hy⟩ := suits_next R hk
 rw [List.range_eq_range', mvs_lines]
 refine Eq.trans ?_ (mvs_way s.actuators.toNat 0 (stepAt s k).strokes (-1) hg.asc (by omega) (fun y q => by have := hy y q; omega))
 rw [List.flatMap_def, List.flatMap_def]
 congr 1
 refine List.map_congr_left fun i hi => ?_
 rw [List.mem_range'_1] at hi
 rw [hf i (by omega)]
 dsimp only
 unfold mv1 fB
 show _ = if wayA s k i = 1 then _ else if wayA s k i = -1 then _ else _
 by_cases q1 : wayA s k i = 1
 · simp only [if_pos q1, if_true]
 · simp only [if_neg q1]
   by_cases q2 : wayA s k i = -1
   · simp only [if_pos q2]; rfl
   · simp only [if_neg q2]
     cases begB s k i <;> rfl
theorem mvs_none {s : Sequence} (f : Nat → List UInt8) {k a : Nat} (hf : ∀ i < s.actuators.toNat, (f i)[a]? = some (sB s k i)) : mvs a 0 ((List.range s.actuators.toNat).map f) = [] := by
 rw [List.range_eq_range', mvs_lines]
 rw [List.flatMap_eq_nil_iff]
 intro i hi
 rw [List.mem_range'_1] at hi
 rw [hf i (by omega)]
 dsimp only
 unfold mv1 sB restB
 cases begB s (k + 1) i <;> rfl
theorem decFrom_app : ∀ (a b : List UInt8) (n : Nat), Lib.decFrom n (a ++ b) = (Lib.decFrom n a).bind fun m => Lib.decFrom m b
 | [], b, n => rfl
 | x :: a, b, n => by
  rw [List.cons_append, Lib.decFrom, Lib.decFrom]
  cases Lib.digitVal x with
  | none => rfl
  | some d => exact decFrom_app a b _
theorem digit_val : ∀ d < 10, Lib.digitVal (UInt8.ofNat (48 + d)) = some d := by decide
theorem decFrom_dec : ∀ n : Nat, Lib.decFrom 0 (Lib.decDigits n) = some n := fun n => by
 induction n using Nat.strongRecOn with
 | ind n ih =>
  by_cases h : n < 10
  · rw [dec_small h, Lib.decFrom, digit_val n h]
    dsimp only
    rw [Lib.decFrom]
    congr 1
    omega
  · have hd : Lib.decDigits n = Lib.decDigits (n / 10) ++ [UInt8.ofNat (48 + n % 10)] := dec_big h
    rw [hd, decFrom_app, ih (n / 10) (by omega), Option.bind_some, Lib.decFrom, digit_val (n % 10) (by omega)]
    dsimp only
    rw [Lib.decFrom]
    congr 1
    omega
theorem atoi_dec (n : Nat) : Lib.atoi (Lib.decDigits n) = some (n : Int) := by
 have h1 := decFrom_dec n
 have h2 := dec_ne n
 have h3 := dec_all n
 cases hd : Lib.decDigits n with
 | nil => exact absurd hd h2
 | cons b r =>
  rw [hd] at h1 h3
  have hb := h3 b (by simp)
  have n1 : (b == 45) = false := by
   rw [beq_eq_false_iff_ne]; intro q; subst q; exact absurd hb (by decide)
  have n2 : (b == 43) = false := by
   rw [beq_eq_false_iff_ne]; intro q; subst q; exact absurd hb (by decide)
  unfold Lib.atoi Lib.decNat
  dsimp only
  rw [n1, n2, if_neg (by decide), if_neg (by decide), if_neg (by simp), h1]
  rfl
def givenR (l : List (List UInt8)) (most : Int) : Int := if (l.length : Int) > most then 5 else if (l.any fun x => decide (x.length > 4096)) = true then 17 else 0
theorem lgiv_loop (l : List (List UInt8)) (hl : l.length ≤ 1000) : ∀ (r pre : List (List UInt8)), l = pre ++ r → ∃ i, slices_IndexFunc_stringstring_diagram_given_1_loop1 l (some (-1)) (r.length + 1) (pre.length : Int) = some i ∧ decide (i ≥ 0) = r.any fun x => decide (x.length > 4096)
 | [], pre, e => by
  rw [slices_IndexFunc_stringstring_diagram_given_1_loop1, end_mid e]
  exact ⟨-1, rfl, rfl⟩
 | y :: r, pre, e => by
  obtain ⟨h1, h2, h3, h4, h5⟩ := step_mid e (by omega)
  obtain ⟨i, ih, k⟩ := lgiv_loop l hl r (pre ++ [y]) h4
  rw [slices_IndexFunc_stringstring_diagram_given_1_loop1, h1, if_pos rfl, h2, Option.bind_some, h3, List.length_cons, ih, List.any_cons]
  by_cases hv : y.length > 4096
  · exact ⟨(pre.length : Int), by rw [if_pos (by simp; omega)], by rw [decide_eq_true hv]; simp⟩
  · exact ⟨i, by rw [if_neg (by simp; omega)], by rw [decide_eq_false hv, k]; rfl⟩
theorem lgiv_eq (l : List (List UInt8)) (most : Int) (hm : most ≤ 100) : diagram_given l most = some (givenR l most) := by
 unfold diagram_given givenR
 by_cases h : (l.length : Int) > most
 · rw [if_pos (by simpa using h), if_pos h]
 · rw [if_neg (by simpa using h), if_neg h]
   obtain ⟨i, h1, k⟩ := lgiv_loop l (by omega) l [] rfl
   have : slices_ContainsFunc_stringstring_diagram_given_1 l = some (l.any fun x => decide (x.length > 4096)) := by
    unfold slices_ContainsFunc_stringstring_diagram_given_1 slices_IndexFunc_stringstring_diagram_given_1 joinK
    dsimp only
    rw [fuel0]
    refine Eq.trans (congrArg (fun o => Option.bind o _) h1) ?_
    rw [← k]
    rfl
   rw [this, Option.bind_some]
   cases l.any fun x => decide (x.length > 4096) <;> rfl
theorem rlim_loop (l : List (List UInt8)) (hl : l.length ≤ 1000) : ∀ (r pre : List (List UInt8)), l = pre ++ r → ref16_limited_loop1 l (some 0) (r.length + 1) (pre.length : Int) = some (if (r.any fun x => decide (x.length > 4096)) = true then 17 else 0)
 | [], pre, e => by
  rw [ref16_limited_loop1, end_mid e]
  rfl
 | y :: r, pre, e => by
  obtain ⟨h1, h2, h3, h4, h5⟩ := step_mid e (by omega)
  have ih := rlim_loop l hl r (pre ++ [y]) h4
  rw [ref16_limited_loop1, h1, if_pos rfl, h2, Option.bind_some, h3, List.length_cons, ih, List.any_cons]
  by_cases hv : y.length > 4096
  · rw [if_pos (by simp; omega), decide_eq_true hv]; rfl
  · rw [if_neg (by simp; omega), decide_eq_false hv]; rfl
theorem rlim_eq (l : List (List UInt8)) (most : Int) (hm : most ≤ 100) : ref16_limited l most = some (givenR l most) := by
 unfold ref16_limited givenR
 by_cases h : (l.length : Int) > most
 · rw [if_pos (by simpa using h), if_pos h]
 · rw [if_neg (by simpa using h), if_neg h]
   unfold joinK
   dsimp only
   rw [fuel0]
   exact rlim_loop l (by omega) l [] rfl
theorem given_zero16 {l : List (List UInt8)} {most : Int} (h : givenR l most = 0) : (l.length : Int) ≤ most ∧ ∀ x ∈ l, x.length ≤ 4096 := by
 unfold givenR at h
 split at h
 · cases h
 · split at h
   · cases h
   · rename_i h1 h2
     refine ⟨by omega, fun x hx => ?_⟩
     rcases Nat.lt_or_ge 4096 x.length with q | q
     · exact (h2 (List.any_eq_true.2 ⟨x, hx, decide_eq_true q⟩)).elim
     · exact q
def readGo (rows : List (List UInt8)) (n : Nat) : Nat → Nat → List Step → List Step
 | 0, _, acc => acc
 | f + 1, a, acc => if a + 1 < n ∧ acc.length ≤ 64 then readGo rows n f (a + 2) (acc ++ [⟨mvs a 0 rows, 0⟩]) else acc
theorem lread1 (rows : List (List UInt8)) (x0 : List UInt8) (h0 : at? rows 0 = some x0) (hl : rows.length ≤ 1000) (hx : x0.length ≤ 100000) (K : List Step → Option (Sequence × Int)) : ∀ (f a : Nat) (acc : List Step), 65 ≤ f + acc.length → acc.length ≤ 65 → a + 2 * f ≤ 100000 →
 diagram_Read_loop1 rows K (f + 1) (a : Int) acc = K (readGo rows x0.length f a acc)
 | 0, a, acc, hf, hc, ha => by
  rw [diagram_Read_loop1, h0, Option.bind_some, wrapN a (by omega), if_neg (by simp; omega)]
  rfl
 | f + 1, a, acc, hf, hc, ha => by
  rw [diagram_Read_loop1, h0, Option.bind_some, wrapN a (by omega), readGo]
  by_cases h : a + 1 < x0.length ∧ acc.length ≤ 64
  · have ih := lread1 rows x0 h0 hl hx K f (a + 2) (acc ++ [⟨mvs a 0 rows, 0⟩]) (by simp; omega) (by simp; omega) (by omega)
    rw [if_pos (by simp; omega), if_pos h]
    unfold joinK
    dsimp only
    rw [fuel0]
    refine Eq.trans (lmv_read rows a hl _ rows [] [] rfl (by simp)) ?_
    rw [List.nil_append, appO_ok (by simp; omega) (by decide), Option.bind_some, wrap64 (by omega) (by omega), show (a : Int) + 2 = ((a + 2 : Nat) : Int) by omega, ← ih]
    rfl
  · rw [if_neg (by simp; omega), if_neg h]
def guessGo (rows : List (List UInt8)) (n : Nat) (ws : List Int) : Nat → Nat → List Step → List Step
 | 0, _, acc => acc
 | f + 1, a, acc => if a < n ∧ acc.length ≤ 64 then guessGo rows n ws f (a + 2) (acc ++ [⟨mvs a 0 rows, ws[acc.length]?.getD 0⟩]) else acc
theorem rguess1 (rows : List (List UInt8)) (x0 : List UInt8) (ws : List Int) (h0 : at? rows 0 = some x0) (hl : rows.length ≤ 1000) (hx : x0.length ≤ 100000) (K : List Step → Option Sequence) : ∀ (f a : Nat) (acc : List Step), 65 ≤ f + acc.length → acc.length ≤ 65 → a + 2 * f ≤ 100000 →
 ref16_Guess_loop1 rows ws K (f + 1) (a : Int) acc = K (guessGo rows x0.length ws f a acc)
 | 0, a, acc, hf, hc, ha => by
  rw [ref16_Guess_loop1, h0, Option.bind_some, if_neg (by simp; omega)]
  rfl
 | f + 1, a, acc, hf, hc, ha => by
  rw [ref16_Guess_loop1, h0, Option.bind_some, guessGo]
  by_cases h : a < x0.length ∧ acc.length ≤ 64
  · have ih := rguess1 rows x0 ws h0 hl hx K f (a + 2) (acc ++ [⟨mvs a 0 rows, ws[acc.length]?.getD 0⟩]) (by simp; omega) (by simp; omega) (by omega)
    rw [if_pos (by simp; omega), if_pos h, rmv_eq rows a hl, Option.bind_some]
    unfold joinK
    dsimp only
    rw [wrap64 (by omega) (by omega), show (a : Int) + 2 = ((a + 2 : Nat) : Int) by omega]
    by_cases hw : acc.length < ws.length
    · rw [if_pos (by simpa using hw), at_nat hw, Option.bind_some, appO_ok (by simp; omega) (by decide), Option.bind_some]
      rw [List.getElem?_eq_getElem hw] at ih ⊢
      exact ih
    · rw [if_neg (by simpa using hw), appO_ok (by simp; omega) (by decide), Option.bind_some]
      rw [List.getElem?_eq_none (by omega)] at ih ⊢
      exact ih
  · rw [if_neg (by simp; omega), if_neg h]
def waitGo : Nat → List (List UInt8) → List Step → List Step
 | _, [], st => st
 | i, t :: r, st => waitGo (i + 1) r (if i < st.length ∧ t.length ≤ 7 then st.set i ⟨(st[i]?.getD ⟨[], 0⟩).strokes, (Lib.atoi t).getD 0⟩ else st)
theorem lread3 (ws : List (List UInt8)) (hl : ws.length ≤ 100000) (K : List Step → Option (Sequence × Int)) : ∀ (r pre : List (List UInt8)) (st : List Step), ws = pre ++ r → diagram_Read_loop3 K ws (r.length + 1) (pre.length : Int) st = K (waitGo pre.length r st)
 | [], pre, st, e => by
  rw [diagram_Read_loop3, end_mid e, if_neg (by simp)]
  rfl
 | t :: r, pre, st, e => by
  obtain ⟨h1, h2, h3, h4, h5⟩ := step_mid e (by omega)
  have ih := fun st2 => lread3 ws hl K r (pre ++ [t]) st2 h4
  rw [show (pre ++ [t]).length = pre.length + 1 by simp] at ih
  rw [diagram_Read_loop3, h1, if_pos rfl]
  unfold joinK
  dsimp only
  rw [h2, Option.bind_some, wrapN pre.length (by omega), List.length_cons, waitGo]
  by_cases h : pre.length < st.length ∧ t.length ≤ 7
  · have ha : atoiE t = some ((Lib.atoi t).getD 0, ()) := by unfold atoiE; rw [if_pos (by omega)]
    rw [if_pos (by simp; omega), if_pos h, ha, Option.bind_some, at_nat h.1, Option.bind_some, Int.toNat_natCast, ih, List.getElem?_eq_getElem h.1]
    rfl
  · rw [if_neg (by simp; omega), if_neg h, ih]
def lastT (l : List (List UInt8)) : Bool := match l.getLast? with | some x => x.head? == some 84 | none => false
def rowsOf (l : List (List UInt8)) : List (List UInt8) := if lastT l = true then l.dropLast else l
def stepsI (rows : List (List UInt8)) : List Step := match rows with | [] => [] | x :: _ => readGo rows x.length 69 3 []
def guessI (l : List (List UInt8)) : Sequence := ⟨(rowsOf l).length, if lastT l = true then waitGo 0 ((Lib.split (l.getLast?.getD []) [32]).drop 1) (stepsI (rowsOf l)) else stepsI (rowsOf l)⟩
def delaysI (t : List UInt8) : List Int := ((fieldsGo [] [] t).drop 1).map fun u => (valS u).1
def stepsR (rows : List (List UInt8)) (ws : List Int) : List Step := match rows with | [] => [] | x :: _ => guessGo rows x.length ws 69 3 []
def guessR (l : List (List UInt8)) : Sequence := ⟨(rowsOf l).length, stepsR (rowsOf l) (if lastT l = true then delaysI (l.getLast?.getD []) else [])⟩
theorem part_suf16 {α : Type} {l : List α} {n : Nat} (h : n ≤ l.length) : part? l (n : Int) (l.length : Int) = some (l.drop n) := by
 unfold part?
 rw [if_pos ⟨by omega, by omega, by omega⟩, List.take_of_length_le (by simp)]
 simp
theorem part_init {α : Type} (l : List α) (x : α) (hl : l.length ≤ 100000) : part? (l ++ [x]) 0 (IntKind.wrap .i64 (((l ++ [x]).length : Int) - 1)) = some l := by
 rw [wrap64 (by simp only [List.length_append, List.length_cons, List.length_nil]; omega) (by simp only [List.length_append, List.length_cons, List.length_nil]; omega)]
 unfold part?
 rw [if_pos ⟨by omega, by simp, by simp; omega⟩]
 simp
theorem at_last16 {α : Type} (l : List α) (x : α) (hl : l.length ≤ 100000) : at? (l ++ [x]) (IntKind.wrap .i64 (((l ++ [x]).length : Int) - 1)) = some x := by
 rw [wrap64 (by simp only [List.length_append, List.length_cons, List.length_nil]; omega) (by simp only [List.length_append, List.length_cons, List.length_nil]; omega), show (((l ++ [x]).length : Int) - 1) = (l.length : Int) by simp]
 exact at?_mid
theorem nil_or_snoc {α : Type} (l : List α) : l = [] ∨ ∃ (a : List α) (x : α), l = a ++ [x] := by
 by_cases h : l = []
 · exact .inl h
 · exact .inr ⟨l.dropLast, l.getLast h, (List.dropLast_concat_getLast h).symm⟩
theorem prefixT (x : List UInt8) : strings_HasPrefix x [84] = some (x.head? == some 84) := by
 unfold strings_HasPrefix internal_stringslite_HasPrefix
 cases x with
 | nil => rfl
 | cons b r =>
  rw [if_pos (by simp; omega)]
  have : cut (b :: r) 0 ((([84] : List UInt8).length : Nat) : Int) = some ((b :: r).take 1) := cut_take (by simp)
  rw [this, Option.bind_some, Option.bind_some, Option.bind_some]
  congr 1
  rw [Bool.eq_iff_iff, beq_iff_eq, beq_iff_eq]
  simp
theorem read_k2 (rows : List (List UInt8)) (hl : rows.length ≤ 1000) (hx : ∀ x ∈ rows, x.length ≤ 100000) (K : List Step → Option (Sequence × Int)) :
 (if (decide ((rows.length : Int) > 0)) = true then diagram_Read_loop1 rows K 70 3 ([] : List Step) else K ([] : List Step)) = K (stepsI rows) := by
 cases rows with
 | nil => rfl
 | cons x r =>
  rw [if_pos (by simp)]
  exact lread1 (x :: r) x rfl hl (hx x (by simp)) K 69 3 [] (by simp) (by simp) (by omega)
theorem lread_eq (l : List (List UInt8)) : diagram_Read l = some (if givenR l 7 ≠ 0 then (⟨0, []⟩, givenR l 7) else if checkE (guessI l) = 0 ∧ drawS (guessI l) = l then (guessI l, 0) else (⟨0, []⟩, 4)) := by
 unfold diagram_Read
 rw [lgiv_eq l 7 (by decide), Option.bind_some]
 by_cases hg : givenR l 7 = 0
 · obtain ⟨g1, g2⟩ := given_zero16 hg
   have hgn : ¬ givenR l 7 ≠ 0 := fun q => q hg
   rw [if_neg (by simpa using hg), if_neg hgn]
   have fin : ∀ S : Sequence, S.actuators ≤ 7 → ((sequence_Check S).bind fun r6 => (if (r6 != 0) = true then some true else (diagram_draw S).bind fun r7 => (slices_Equal_stringstring r7 l).bind fun r8 => some (!r8)).bind fun c2 => if c2 = true then some ((Sequence.mk 0 []), (4 : Int)) else some (S, 0))
    = some (if checkE S = 0 ∧ drawS S = l then (S, 0) else (⟨0, []⟩, 4)) := fun S hS => by
    rw [lcheck14, Option.bind_some]
    by_cases hc : checkE S = 0
    · have R := checkE_zero hc
      rw [if_neg (by simpa using hc), ldraw_eq S R, Option.bind_some, (eqTl _ _ (by have := drawS_len S R.n1; omega)), Option.bind_some, Option.bind_some]
      by_cases hd : drawS S = l
      · rw [decide_eq_true hd, if_neg (by decide), if_pos ⟨hc, hd⟩]
      · rw [decide_eq_false hd, if_pos (by decide), if_neg (fun q => hd q.2)]
    · rw [if_pos (by simpa using hc), Option.bind_some, if_pos rfl, if_neg (fun q => hc q.1)]
   unfold joinK
   dsimp only
   rcases nil_or_snoc l with rfl | ⟨init, x, rfl⟩
   · rw [if_neg (by simp), Option.bind_some, if_neg (by decide)]
     refine Eq.trans (read_k2 [] (by simp) (by simp) _) ?_
     rw [if_neg (by simp)]
     exact fin ⟨0, []⟩ (by decide)
   · have hx := g2 x (by simp)
     simp only [List.length_append, List.length_cons, List.length_nil] at g1
     have hil : init.length ≤ 100000 := by omega
     have hT : lastT (init ++ [x]) = (x.head? == some 84) := by simp [lastT]
     rw [if_pos (by simp), at_last16 init x hil, Option.bind_some, prefixT, Option.bind_some, Option.bind_some]
     cases ht : (x.head? == some 84)
     · have hR : rowsOf (init ++ [x]) = init ++ [x] := by rw [rowsOf, hT, ht, if_neg (by decide)]
       have hI : guessI (init ++ [x]) = ⟨((init ++ [x]).length : Int), stepsI (init ++ [x])⟩ := by rw [guessI, hR, hT, ht, if_neg (by decide)]
       rw [if_neg (by decide)]
       refine Eq.trans (read_k2 (init ++ [x]) (by simp; omega) (fun y hy => by have := g2 y hy; omega) _) ?_
       rw [if_neg (by simp), hI]
       exact fin _ (by simp; omega)
     · have hR : rowsOf (init ++ [x]) = init := by rw [rowsOf, hT, ht, if_pos rfl]; simp
       have hI : guessI (init ++ [x]) = ⟨(init.length : Int), waitGo 0 ((Lib.split x [32]).drop 1) (stepsI init)⟩ := by rw [guessI, hR, hT, ht, if_pos rfl]; simp
       have hne : (!(x == [])) = true := by
        cases x with
        | nil => cases ht
        | cons b r => rfl
       have ho := split_offs x [32] (by simp)
       have hlen := offs_len 1 (Nat.le_refl _) (Lib.split x [32])
       have hsn := split_ne x [32] (by simp)
       have hpos : 1 ≤ (Lib.split x [32]).length := List.length_pos_iff.2 hsn
       rw [if_pos rfl, part_init init x hil, Option.bind_some, Option.bind_some]
       refine Eq.trans (read_k2 init (by omega) (fun y hy => by have := g2 y (by simp [hy]); omega) _) ?_
       rw [if_pos hne, splitS_eq (by omega) (by decide), Option.bind_some, show (1 : Int) = ((1 : Nat) : Int) from rfl, part_suf16 hpos, Option.bind_some, fuel0]
       refine Eq.trans (lread3 _ (by simp at ho; simp; omega) _ _ [] _ rfl) ?_
       rw [hI]
       exact fin _ (by simp; omega)
 · rw [if_pos (by simpa using hg), if_pos hg]
theorem delays_loop (F : List (List UInt8)) (hl : F.length ≤ 100000) (hF : ∀ t ∈ F, t.length ≤ 1000000) (K : List Int → Option (List Int)) : ∀ (r pre : List (List UInt8)) (acc : List Int), F = pre ++ r → acc.length ≤ pre.length →
 ref16_delays_loop1 F K (r.length + 1) (pre.length : Int) acc = K (acc ++ r.map fun u => (valS u).1)
 | [], pre, acc, e, hc => by
  rw [ref16_delays_loop1, end_mid e, if_neg (by simp)]
  simp
 | y :: r, pre, acc, e, hc => by
  obtain ⟨h1, h2, h3, h4, h5⟩ := step_mid e (by omega)
  have ih := delays_loop F hl hF K r (pre ++ [y]) (acc ++ [(valS y).1]) h4 (by simp; omega)
  rw [ref16_delays_loop1, h1, if_pos rfl, h2, Option.bind_some, rval_eq y (by have := hF y (by rw [e]; simp); omega), Option.bind_some, appO_ok (by simp; omega) (by decide), Option.bind_some, h3, List.length_cons, ih]
  simp
theorem fields_count : ∀ (r last : List UInt8) (acc : List (List UInt8)), (fieldsGo last acc r).length ≤ acc.length + r.length + 1
 | [], last, acc => by
  rw [fieldsGo]
  split
  · simp
  · simp
 | b :: r, last, acc => by
  rw [fieldsGo]
  split
  · have := fields_count r [] (if last = [] then acc else acc ++ [last])
    refine Nat.le_trans this ?_
    split <;> simp <;> omega
  · have := fields_count r (last ++ [b]) acc
    simp
    omega
theorem rdelays_eq (t : List UInt8) (ht : t.length ≤ 90000) : ref16_delays t = some (delaysI t) := by
 unfold ref16_delays delaysI joinK
 rw [fields_eq t (by omega), Option.bind_some]
 dsimp only
 have hc := fields_count t [] []
 have hf := fields_len t [] [] t.length (by simp) (by simp)
 generalize hF : fieldsGo [] [] t = F at hc hf
 simp only [List.length_nil] at hc
 cases F with
 | nil => rfl
 | cons a r =>
  have := delays_loop (a :: r) (by omega) (fun u hu => by have := hf u hu; omega) (fun l3 => some l3) r [a] [] rfl (by simp)
  rw [show Int.toNat ((((a :: r).length : Nat) : Int) - 1) = r.length by simp]
  refine Eq.trans this ?_
  simp
theorem guess_k (l rows : List (List UInt8)) (hl : rows.length ≤ 1000) (hx : ∀ x ∈ rows, x.length ≤ 100000) (ws : List Int) :
 (if (((rows.length : Int)) == 0) = true then some (Sequence.mk (rows.length : Int) []) else ref16_Guess_loop1 rows ws (fun l6 => some (Sequence.mk (rows.length : Int) l6)) 70 3 ([] : List Step)) = some ⟨(rows.length : Int), stepsR rows ws⟩ := by
 cases rows with
 | nil => rfl
 | cons x r =>
  rw [if_neg (by simp; omega)]
  exact rguess1 (x :: r) x ws rfl hl (hx x (by simp)) _ 69 3 [] (by simp) (by simp) (by omega)
theorem rguess_eq (l : List (List UInt8)) (hl : l.length ≤ 100) (hx : ∀ x ∈ l, x.length ≤ 4096) : ref16_Guess l = some (guessR l) := by
 unfold ref16_Guess joinK
 dsimp only
 rcases nil_or_snoc l with rfl | ⟨init, x, rfl⟩
 · rfl
 · simp only [List.length_append, List.length_cons, List.length_nil] at hl
   have hil : init.length ≤ 100000 := by omega
   have hT : lastT (init ++ [x]) = (x.head? == some 84) := by simp [lastT]
   have hw : IntKind.wrap .i64 (((init ++ [x]).length : Int) - 1) = (init.length : Int) := by
    rw [wrap64 (by simp only [List.length_append, List.length_cons, List.length_nil]; omega) (by simp only [List.length_append, List.length_cons, List.length_nil]; omega)]
    simp
   have ha := at_last16 init x hil
   have hp := part_init init x hil
   rw [hw] at ha hp
   have hxx := hx x (by simp)
   rw [hw, if_pos (by simp), ha, Option.bind_some, Option.bind_some]
   have e2 : (if decide ((x.length : Int) > 0) = true then (some x).bind fun x2 => (byteAt x2 0).bind fun b3 => some ((b3.toNat : Int) == 84) else some false) = some (x.head? == some 84) := by
    cases x with
    | nil => rfl
    | cons b r =>
     rw [if_pos (by simp), Option.bind_some]
     show some ((b.toNat : Int) == 84) = _
     congr 1
     rw [Bool.eq_iff_iff, beq_iff_eq, beq_iff_eq]
     exact ⟨fun h => by rw [UInt8.toNat_inj.1 (show b.toNat = (84 : UInt8).toNat by have : (84 : UInt8).toNat = 84 := rfl; omega)]; rfl, fun h => by rw [Option.some.inj h]; rfl⟩
   rw [e2, Option.bind_some]
   cases ht : (x.head? == some 84)
   · have hR : rowsOf (init ++ [x]) = init ++ [x] := by rw [rowsOf, hT, ht, if_neg (by decide)]
     have hG : guessR (init ++ [x]) = ⟨((init ++ [x]).length : Int), stepsR (init ++ [x]) []⟩ := by rw [guessR, hR, hT, ht, if_neg (by decide)]
     rw [if_neg (by decide), hG]
     exact guess_k [] (init ++ [x]) (by simp; omega) (fun y hy => by have := hx y hy; omega) []
   · have hR : rowsOf (init ++ [x]) = init := by rw [rowsOf, hT, ht, if_pos rfl]; simp
     have hG : guessR (init ++ [x]) = ⟨(init.length : Int), stepsR init (delaysI x)⟩ := by rw [guessR, hR, hT, ht, if_pos rfl]; simp
     rw [if_pos rfl, Option.bind_some, rdelays_eq x (by omega), Option.bind_some, hp, Option.bind_some, hG]
     exact guess_k [] init (by omega) (fun y hy => by have := hx y (by simp [hy]); omega) _
theorem rread_eq (l : List (List UInt8)) : ref16_Read l = some (if givenR l 7 ≠ 0 then (⟨0, []⟩, givenR l 7) else if checkE (guessR l) = 0 ∧ drawS (guessR l) = l then (guessR l, 0) else (⟨0, []⟩, 4)) := by
 unfold ref16_Read
 rw [rlim_eq l 7 (by decide), Option.bind_some]
 by_cases hg : givenR l 7 = 0
 · obtain ⟨g1, g2⟩ := given_zero16 hg
   have hgn : ¬ givenR l 7 ≠ 0 := fun q => q hg
   rw [if_neg (by simpa using hg), if_neg hgn, rguess_eq l (by omega) g2, Option.bind_some, rDraw_eq, Option.bind_some]
   by_cases hc : checkE (guessR l) = 0
   · have R := checkE_zero hc
     have hcn : ¬ checkE (guessR l) ≠ 0 := fun q => q hc
     have hD : drawR (guessR l) = (drawS (guessR l), 0) := by rw [drawR, if_neg hcn]
     rw [hD]
     dsimp only
     rw [if_neg (by decide), (eqTr _ _ (by have := drawS_len _ R.n1; omega)), Option.bind_some, Option.bind_some]
     by_cases hd : drawS (guessR l) = l
     · rw [decide_eq_true hd, if_neg (by decide), if_pos ⟨hc, hd⟩]
     · rw [decide_eq_false hd, if_pos (by decide), if_neg (fun q => hd q.2)]
   · have hD : drawR (guessR l) = ([], checkE (guessR l)) := by rw [drawR, if_pos hc]
     rw [hD]
     dsimp only
     rw [if_pos (by simpa using hc), Option.bind_some, if_pos rfl, if_neg (fun q => hc q.1)]
 · rw [if_pos (by simpa using hg), if_pos hg]
theorem line_exact (s : Sequence) (i : Nat) (w : Nat → Nat) : ∀ k, (lineW s i w (fun _ => false) k).length = 3 + sumW w k + k
 | 0 => by simp [lineW, sumW]
 | k + 1 => by
  rw [lineW_succ, List.length_append, line_exact s i w k, sumW]
  simp [blk]
  omega
theorem line_split (s : Sequence) (i : Nat) (w : Nat → Nat) (k : Nat) : ∀ n, k < n → ∃ r, lineW s i w (fun _ => false) n = lineW s i w (fun _ => false) k ++ (List.replicate (w k) (fB s k i) ++ sB s k i :: r)
 | 0, h => by omega
 | n + 1, h => by
  by_cases e : k = n
  · subst e
    refine ⟨[], ?_⟩
    rw [lineW_succ]
    simp [blk]
  · obtain ⟨r, hr⟩ := line_split s i w k n (by omega)
    refine ⟨r ++ blk s i w (fun _ => false) n, ?_⟩
    rw [lineW_succ, hr]
    simp
theorem line_first (s : Sequence) (i : Nat) (w : Nat → Nat) {k n j : Nat} (hk : k < n) (hj : j < w k) : (lineW s i w (fun _ => false) n)[3 + sumW w k + k + j]? = some (fB s k i) := by
 obtain ⟨r, hr⟩ := line_split s i w k n hk
 have hl := line_exact s i w k
 rw [hr, List.getElem?_append_right (by omega), hl, show 3 + sumW w k + k + j - (3 + sumW w k + k) = j by omega, List.getElem?_append_left (by simpa using hj), List.getElem?_replicate, if_pos hj]
theorem line_second (s : Sequence) (i : Nat) (w : Nat → Nat) {k n : Nat} (hk : k < n) : (lineW s i w (fun _ => false) n)[3 + sumW w k + k + w k]? = some (sB s k i) := by
 obtain ⟨r, hr⟩ := line_split s i w k n hk
 have hl := line_exact s i w k
 rw [hr, List.getElem?_append_right (by omega), hl, show 3 + sumW w k + k + w k - (3 + sumW w k + k) = w k by omega, List.getElem?_append_right (by simp)]
 simp
theorem mvs_first {s : Sequence} (R : RightS s) (w : Nat → Nat) {k j : Nat} (hk : k < s.steps.length) (hj : j < w k) : mvs (3 + sumW w k + k + j) 0 (linesW s w (fun _ => false) s.actuators.toNat) = (stepAt s k).strokes :=
 mvs_step R (fun i => lineW s i w (fun _ => false) s.steps.length) hk (fun i hi => line_first s i w hk hj)
theorem mvs_second {s : Sequence} (w : Nat → Nat) {k : Nat} (hk : k < s.steps.length) : mvs (3 + sumW w k + k + w k) 0 (linesW s w (fun _ => false) s.actuators.toNat) = [] :=
 mvs_none (fun i => lineW s i w (fun _ => false) s.steps.length) (k := k) (fun i hi => line_second s i w hk)
def still (x : Step) : Step := ⟨x.strokes, 0⟩
theorem linesW_cons {s : Sequence} (R : RightS s) (w : Nat → Nat) (mk : Nat → Bool) : ∃ r, linesW s w mk s.actuators.toNat = lineW s 0 w mk s.steps.length :: r := by
 have n0 := R.n0
 obtain ⟨n, hn⟩ : ∃ n, s.actuators.toNat = n + 1 := ⟨s.actuators.toNat - 1, by omega⟩
 rw [hn, linesW, List.range_succ_eq_map, List.map_cons]
 exact ⟨_, rfl⟩
theorem readGo_draw {s : Sequence} (R : RightS s) : ∀ (m k f : Nat), k + m = s.steps.length → m ≤ f →
 readGo (linesW s (fun _ => 1) (fun _ => false) s.actuators.toNat) (3 + 2 * s.steps.length) f (3 + 2 * k) ((s.steps.take k).map still) = s.steps.map still
 | 0, k, f, h, hf => by
  have e : s.steps.take k = s.steps := List.take_of_length_le (by omega)
  rw [e]
  cases f with
  | zero => rfl
  | succ f => rw [readGo, if_neg (by omega)]
 | m + 1, k, f + 1, h, hf => by
  have hk : k < s.steps.length := by omega
  have hl1 := R.l1
  have ih := readGo_draw R m (k + 1) f (by omega) (by omega)
  have hm := mvs_first R (fun _ => 1) hk (j := 0) (by decide)
  rw [sum_one, show 3 + k + k + 0 = 3 + 2 * k by omega] at hm
  rw [readGo, if_pos ⟨by omega, by simp; omega⟩, hm, ← ih, show 3 + 2 * k + 2 = 3 + 2 * (k + 1) by omega, List.take_succ_eq_append_getElem hk, List.map_append, stepAt_eq hk]
  rfl
theorem guessGo_draw {s : Sequence} (R : RightS s) (ws : List Int) (hw : ∀ k < s.steps.length, ws[k]?.getD 0 = (stepAt s k).wait) : ∀ (m k f : Nat), k + m = s.steps.length → m ≤ f →
 guessGo (linesW s (fun _ => 1) (fun _ => false) s.actuators.toNat) (3 + 2 * s.steps.length) ws f (3 + 2 * k) (s.steps.take k) = s.steps
 | 0, k, f, h, hf => by
  have e : s.steps.take k = s.steps := List.take_of_length_le (by omega)
  rw [e]
  cases f with
  | zero => rfl
  | succ f => rw [guessGo, if_neg (by omega)]
 | m + 1, k, f + 1, h, hf => by
  have hk : k < s.steps.length := by omega
  have hl1 := R.l1
  have ih := guessGo_draw R ws hw m (k + 1) f (by omega) (by omega)
  have hm := mvs_first R (fun _ => 1) hk (j := 0) (by decide)
  rw [sum_one, show 3 + k + k + 0 = 3 + 2 * k by omega] at hm
  have hlk : (s.steps.take k).length = k := by rw [List.length_take]; omega
  rw [guessGo, if_pos ⟨by omega, by omega⟩, hm, hlk, hw k hk]
  refine Eq.trans ?_ ih
  rw [show 3 + 2 * k + 2 = 3 + 2 * (k + 1) by omega, List.take_succ_eq_append_getElem hk, stepAt_eq hk]
theorem waitGo_back : ∀ (r pre : List Step), (∀ x ∈ r, 0 ≤ x.wait ∧ x.wait ≤ 1000000) → waitGo pre.length (r.map fun x => decT x.wait) (pre ++ r.map still) = pre ++ r
 | [], pre, _ => by simp [waitGo]
 | x :: r, pre, h => by
  obtain ⟨h0, h1⟩ := h x (by simp)
  have hl := decT_len h0 h1
  have ih := waitGo_back r (pre ++ [x]) (fun y hy => h y (by simp [hy]))
  rw [show (pre ++ [x]).length = pre.length + 1 by simp] at ih
  rw [List.map_cons, List.map_cons, waitGo, if_pos ⟨by simp, hl⟩]
  have e1 : Lib.atoi (decT x.wait) = some x.wait := by
   rw [decT, atoi_dec, show ((x.wait.toNat : Nat) : Int) = x.wait by omega]
  rw [e1, set_mid, List.getElem?_append_right (Nat.le_refl _)]
  simp only [Nat.sub_self, List.getElem?_cons_zero, Option.getD_some]
  rw [show pre ++ x :: r = (pre ++ [x]) ++ r by simp, ← ih]
  simp [still]
theorem lineT_join (l : List Step) : lineT l = Lib.join ([84] :: l.map fun x => decT x.wait) [32] := by
 rw [Lib.join_cons]
 have : Lib.joinTail [32] (l.map fun x => decT x.wait) = l.flatMap fun x => 32 :: decT x.wait := by
  unfold Lib.joinTail
  rw [List.map_map, List.flatMap_def]
  rfl
 rw [this]
 rfl
theorem no32 (n : Int) : (32 : UInt8) ∉ decT n := fun h => (dec_bytes n.toNat 32 h).1 rfl
theorem lineT_split (l : List Step) : Lib.split (lineT l) [32] = [84] :: l.map fun x => decT x.wait := by
 rw [lineT_join]
 refine split_join [32] 32 [] rfl _ (by simp) (fun p hp => ?_)
 rcases List.mem_cons.1 hp with rfl | hp
 · decide
 · obtain ⟨x, _, rfl⟩ := List.mem_map.1 hp
   exact no32 _
theorem join_space : ∀ l : List (List UInt8), Lib.join l [32] = joinT l
 | [] => rfl
 | [x] => by rw [Lib.join_one, joinT, if_pos rfl]
 | x :: y :: r => by
  have ih := join_space (y :: r)
  rw [Lib.join_cons] at ih ⊢
  rw [joinT, if_neg (by simp), ← ih]
  simp [Lib.joinTail]
theorem lineT_delays (l : List Step) (h : ∀ x ∈ l, 0 ≤ x.wait ∧ x.wait ≤ 1000000) : delaysI (lineT l) = l.map Step.wait := by
 unfold delaysI
 rw [lineT_join, join_space, fields_join _ [] (fun t ht => by
  rcases List.mem_cons.1 ht with rfl | ht
  · exact ⟨by decide, by decide⟩
  · obtain ⟨x, _, rfl⟩ := List.mem_map.1 ht
    exact ⟨no32 _, dec_ne _⟩)]
 rw [List.nil_append, List.drop_one, List.tail_cons, List.map_map]
 refine List.map_congr_left fun x hx => ?_
 obtain ⟨h0, h1⟩ := h x hx
 show (valS (Lib.decDigits x.wait.toNat)).1 = x.wait
 rw [valS_dec (by omega)]
 dsimp only
 omega
theorem letterT : ∀ i < 6, ¬ UInt8.ofNat (65 + i) = 84 := by decide
theorem last_draw {s : Sequence} (R : RightS s) : lastT (drawS s) = waitsB s ∧ rowsOf (drawS s) = linesW s (fun _ => 1) (fun _ => false) s.actuators.toNat := by
 have n0 := R.n0
 have n1 := R.n1
 cases hw : waitsB s
 · have hd : drawS s = linesW s (fun _ => 1) (fun _ => false) s.actuators.toNat := by rw [drawS, hw, if_neg (by decide), List.append_nil]
   obtain ⟨n, hn⟩ : ∃ n, s.actuators.toNat = n + 1 := ⟨s.actuators.toNat - 1, by omega⟩
   have hl : lastT (drawS s) = false := by
    rw [hd, hn, linesW_succ, lastT, List.getLast?_concat]
    have := letterT n (by omega)
    show ((lineW s n (fun _ => 1) (fun _ => false) s.steps.length).head? == some 84) = false
    rw [beq_eq_false_iff_ne, lineW]
    intro q
    exact this (Option.some.inj q)
   rw [rowsOf, hl, if_neg (by decide), hd]
   exact ⟨rfl, rfl⟩
 · have hd : drawS s = linesW s (fun _ => 1) (fun _ => false) s.actuators.toNat ++ [lineT s.steps] := by rw [drawS, hw, if_pos rfl]
   have hl : lastT (drawS s) = true := by rw [hd, lastT, List.getLast?_concat]; rfl
   rw [rowsOf, hl, if_pos rfl, hd, List.dropLast_concat]
   exact ⟨rfl, rfl⟩
theorem still_all {l : List Step} (h : (l.any fun x => x.wait != 0) = false) : l.map still = l := by
 refine Eq.trans (List.map_congr_left (g := id) fun x hx => ?_) (List.map_id _)
 have := List.any_eq_false.1 h x hx
 simp at this
 obtain ⟨a, b⟩ := x
 dsimp only at this
 subst this
 rfl
theorem guess_back {s : Sequence} (R : RightS s) : guessI (drawS s) = s ∧ guessR (drawS s) = s := by
 have n0 := R.n0
 have hl1 := R.l1
 obtain ⟨h1, h2⟩ := last_draw R
 obtain ⟨r, hr⟩ := linesW_cons R (fun _ => 1) (fun _ => false)
 have hx0 := line_exact s 0 (fun _ => 1) s.steps.length
 rw [sum_one] at hx0
 have hI : stepsI (linesW s (fun _ => 1) (fun _ => false) s.actuators.toNat) = s.steps.map still := by
  rw [hr]
  show readGo (lineW s 0 (fun _ => 1) (fun _ => false) s.steps.length :: r) (lineW s 0 (fun _ => 1) (fun _ => false) s.steps.length).length 69 3 [] = _
  rw [← hr, hx0, show 3 + s.steps.length + s.steps.length = 3 + 2 * s.steps.length by omega]
  exact readGo_draw R s.steps.length 0 69 (by omega) (by omega)
 have hR : ∀ ws : List Int, (∀ k < s.steps.length, ws[k]?.getD 0 = (stepAt s k).wait) → stepsR (linesW s (fun _ => 1) (fun _ => false) s.actuators.toNat) ws = s.steps := fun ws hw => by
  rw [hr]
  show guessGo (lineW s 0 (fun _ => 1) (fun _ => false) s.steps.length :: r) (lineW s 0 (fun _ => 1) (fun _ => false) s.steps.length).length ws 69 3 [] = _
  rw [← hr, hx0, show 3 + s.steps.length + s.steps.length = 3 + 2 * s.steps.length by omega]
  exact guessGo_draw R ws hw s.steps.length 0 69 (by omega) (by omega)
 have hlen : (((linesW s (fun _ => 1) (fun _ => false) s.actuators.toNat).length : Nat) : Int) = s.actuators := by rw [linesW_len]; omega
 rw [guessI, guessR, h2, h1, hlen, hI]
 cases hw : waitsB s
 · rw [if_neg (by decide), if_neg (by decide), still_all hw, hR [] (fun k hk => ?_)]
   · exact ⟨rfl, rfl⟩
   · have := List.any_eq_false.1 hw s.steps[k] (List.getElem_mem hk)
     rw [stepAt_eq hk]
     simp at this
     simp [this]
 · have hd : drawS s = linesW s (fun _ => 1) (fun _ => false) s.actuators.toNat ++ [lineT s.steps] := by rw [drawS, hw, if_pos rfl]
   have hg : (drawS s).getLast?.getD [] = lineT s.steps := by rw [hd, List.getLast?_concat]; rfl
   have hb := waitGo_back s.steps [] (right_wait R)
   rw [if_pos rfl, if_pos rfl, hg, lineT_split, List.drop_one, List.tail_cons, lineT_delays _ (right_wait R), hR _ (fun k hk => ?_)]
   · refine ⟨?_, rfl⟩
     rw [show waitGo 0 (s.steps.map fun x => decT x.wait) (s.steps.map still) = s.steps from hb]
   · rw [stepAt_eq hk]
     simp [hk]
theorem read_same (l : List (List UInt8)) : ∃ r : Sequence × Int, diagram_Read l = some r ∧ ref16_Read l = some r ∧ (r.1 = ⟨0, []⟩ ∨ checkE r.1 = 0) := by
 rw [lread_eq, rread_eq]
 by_cases hg : givenR l 7 ≠ 0
 · rw [if_pos hg, if_pos hg]
   exact ⟨_, rfl, rfl, .inl rfl⟩
 · rw [if_neg hg, if_neg hg]
   by_cases hI : checkE (guessI l) = 0 ∧ drawS (guessI l) = l
   · have e := (guess_back (checkE_zero hI.1)).2
     rw [hI.2] at e
     rw [if_pos hI, e, if_pos hI]
     exact ⟨_, rfl, rfl, .inr hI.1⟩
   · rw [if_neg hI]
     by_cases hR : checkE (guessR l) = 0 ∧ drawS (guessR l) = l
     · have e := (guess_back (checkE_zero hR.1)).1
       rw [hR.2] at e
       rw [e] at hI
       exact absurd hR hI
     · rw [if_neg hR]
       exact ⟨_, rfl, rfl, .inl rfl⟩
theorem wd_ge {x : List UInt8} {n : Nat} (h : n < x.length) : 1 ≤ (decW x n).2 := by
 have hs : n < (⟨x.toArray⟩ : ByteArray).size := by simpa [ByteArray.size] using h
 by_cases ha : 128 ≤ ((⟨x.toArray⟩ : ByteArray)[n]'hs).toNat
 · exact (decode_high _ n hs ha).2
 · unfold decW
   rw [decode_ascii _ n hs (by omega)]
   exact Nat.le_refl _
theorem wd_one {x : List UInt8} {n : Nat} (h : n < x.length) (ha : x[n].toNat < 128) : (decW x n).2 = 1 := by
 have hs : n < (⟨x.toArray⟩ : ByteArray).size := by simpa [ByteArray.size] using h
 unfold decW
 rw [decode_ascii _ n hs ha]
def unGo (rows : List (List UInt8)) (x : List UInt8) : Nat → Int → List Int → Nat → List Step → List Int × List Step
 | 0, _, l1, _, l2 => (l1, l2)
 | f + 1, i, l1, n, l2 => if n < x.length then
  (if n < 3 ∨ 64 < l2.length then unGo rows x f i l1 (n + (decW x n).2) l2
  else if mvs n 0 rows ≠ [] then unGo rows x f (i + 1) l1 (n + (decW x n).2) (if i = 0 then l2 ++ [⟨mvs n 0 rows, 0⟩] else l2)
  else if i > 0 then unGo rows x f 0 (l1 ++ [i]) (n + (decW x n).2) l2 else unGo rows x f i l1 (n + (decW x n).2) l2)
  else (l1, l2)
theorem lun1 (rows : List (List UInt8)) (x : List UInt8) (hl : rows.length ≤ 1000) (hx : x.length ≤ 100000) (K : List Int → List Step → Option (Sequence × List Int × Int)) : ∀ (f : Nat) (i : Int) (l1 : List Int) (n : Nat) (l2 : List Step),
 x.length ≤ f + n → 0 ≤ i → i + f ≤ 200000 → l1.length + f ≤ 200000 → l2.length ≤ 65 →
 diagram_Unscale_loop1 rows K x (f + 1) i l1 n l2 = K (unGo rows x f i l1 n l2).1 (unGo rows x f i l1 n l2).2
 | 0, i, l1, n, l2, hf, h0, hi, h1, h2 => by
  rw [diagram_Unscale_loop1, if_neg (by rw [decide_eq_true_eq]; omega)]
  rfl
 | f + 1, i, l1, n, l2, hf, h0, hi, h1, h2 => by
  rw [diagram_Unscale_loop1, unGo]
  by_cases hn : n < x.length
  · have hw := wd_ge hn
    rw [if_pos (by simpa using hn), if_pos hn]
    by_cases hs : n < 3 ∨ 64 < l2.length
    · rw [if_pos (by simp; omega), if_pos hs]
      exact lun1 rows x hl hx K f i l1 _ l2 (by omega) h0 (by omega) (by omega) h2
    · rw [if_neg (by simp; omega), if_neg hs]
      unfold joinK
      dsimp only
      rw [fuel0]
      refine Eq.trans (lmv_un rows n hl _ rows [] [] rfl (by simp)) ?_
      simp only [List.nil_append, List.length_nil]
      by_cases hm : mvs n 0 rows = []
      · have hmn : ¬ mvs n 0 rows ≠ [] := fun q => q hm
        rw [if_neg hmn, if_neg (by simp [hm])]
        by_cases hp : i > 0
        · rw [if_pos (by simpa using hp), if_pos hp, appO_ok (by simp; omega) (by decide), Option.bind_some]
          exact lun1 rows x hl hx K f 0 (l1 ++ [i]) _ l2 (by omega) (by omega) (by omega) (by simp; omega) h2
        · rw [if_neg (by simpa using hp), if_neg hp]
          exact lun1 rows x hl hx K f i l1 _ l2 (by omega) h0 (by omega) (by omega) h2
      · have hlen : 0 < (mvs n 0 rows).length := List.length_pos_iff.2 hm
        rw [if_pos (by simp; omega), if_pos hm, wrap64 (by omega) (by omega)]
        by_cases hz : i = 0
        · rw [if_pos (by simpa using hz), if_pos hz, appO_ok (by simp; omega) (by decide), Option.bind_some]
          exact lun1 rows x hl hx K f (i + 1) l1 _ _ (by omega) (by omega) (by omega) (by omega) (by simp; omega)
        · rw [if_neg (by simpa using hz), if_neg hz]
          exact lun1 rows x hl hx K f (i + 1) l1 _ l2 (by omega) (by omega) (by omega) (by omega) h2
  · rw [if_neg (by simpa using hn), if_neg hn]
theorem unGo_inv (rows : List (List UInt8)) (x : List UInt8) : ∀ (f : Nat) (i : Int) (l1 : List Int) (n : Nat) (l2 : List Step), 0 ≤ i → (∀ c ∈ l1, 1 ≤ c) → (∀ t ∈ l2, t.wait = 0) →
 (∀ c ∈ (unGo rows x f i l1 n l2).1, 1 ≤ c) ∧ (∀ t ∈ (unGo rows x f i l1 n l2).2, t.wait = 0) ∧ wsum (unGo rows x f i l1 n l2).1 ≤ wsum l1 + i + f
 | 0, i, l1, n, l2, h0, h1, h2 => ⟨h1, h2, by show wsum l1 ≤ _; omega⟩
 | f + 1, i, l1, n, l2, h0, h1, h2 => by
  rw [unGo]
  split
  · split
    · obtain ⟨a, b, c⟩ := unGo_inv rows x f i l1 (n + (decW x n).2) l2 h0 h1 h2
      exact ⟨a, b, by omega⟩
    · split
      · obtain ⟨a, b, c⟩ := unGo_inv rows x f (i + 1) l1 (n + (decW x n).2) (if i = 0 then l2 ++ [⟨mvs n 0 rows, 0⟩] else l2) (by omega) h1 (fun t ht => by
         split at ht
         · rcases List.mem_append.1 ht with ht | ht
           · exact h2 t ht
           · rw [List.mem_singleton.1 ht]
         · exact h2 t ht)
        exact ⟨a, b, by omega⟩
      · split
        · rename_i hp
          obtain ⟨a, b, c⟩ := unGo_inv rows x f 0 (l1 ++ [i]) (n + (decW x n).2) l2 (Int.le_refl _) (fun c hc => by
           rcases List.mem_append.1 hc with hc | hc
           · exact h1 c hc
           · rw [List.mem_singleton.1 hc]; omega) h2
          rw [wsum_snoc] at c
          exact ⟨a, b, by omega⟩
        · obtain ⟨a, b, c⟩ := unGo_inv rows x f i l1 (n + (decW x n).2) l2 h0 h1 h2
          exact ⟨a, b, by omega⟩
  · exact ⟨h1, h2, by show wsum l1 ≤ _; omega⟩
def unI (l : List (List UInt8)) : List Int × List Step := match l with | [] => ([], []) | x :: _ => unGo l x x.length 0 [] 0 []
def seqI (l : List (List UInt8)) : Sequence := ⟨(l.length : Int), (unI l).2⟩
theorem unI_inv (l : List (List UInt8)) (h : ∀ x ∈ l, x.length ≤ 4096) : (∀ c ∈ (unI l).1, 1 ≤ c) ∧ (∀ t ∈ (unI l).2, t.wait = 0) ∧ wsum (unI l).1 ≤ 4096 := by
 cases l with
 | nil => exact ⟨fun c hc => by simp [unI] at hc, fun c hc => by simp [unI] at hc, by decide⟩
 | cons x r =>
  have hx := h x (by simp)
  obtain ⟨a, b, c⟩ := unGo_inv (x :: r) x x.length 0 [] 0 [] (Int.le_refl _) (fun c hc => by simp at hc) (fun t ht => by simp at ht)
  refine ⟨a, b, Int.le_trans c ?_⟩
  simp [wsum]
  omega
theorem sum_le {ws : List Int} (h : ∀ c ∈ ws, 1 ≤ c) (hs : wsum ws ≤ 10000) : ∀ k ≤ ws.length, sumW (wAt ws) k ≤ 10000 := fun k hk => by
 have := sum_wAt ws h k hk
 omega
theorem lunscale_eq (l : List (List UInt8)) : diagram_Unscale l = some (if givenR l 6 ≠ 0 then (⟨0, []⟩, [], givenR l 6) else if checkE (seqI l) = 0 ∧ (unI l).1.length = (unI l).2.length ∧ linesW (seqI l) (wAt (unI l).1) (fun _ => false) (seqI l).actuators.toNat = l then (seqI l, (unI l).1, 0) else (⟨0, []⟩, [], 4)) := by
 unfold diagram_Unscale
 rw [lgiv_eq l 6 (by decide), Option.bind_some]
 by_cases hg : givenR l 6 = 0
 · obtain ⟨g1, g2⟩ := given_zero16 hg
   have hgn : ¬ givenR l 6 ≠ 0 := fun q => q hg
   rw [if_neg (by simpa using hg), if_neg hgn]
   unfold joinK
   dsimp only
   have key : ∀ K : List Int → List Step → Option (Sequence × List Int × Int), (if (decide ((l.length : Int) > 0)) = true then (at? l 0).bind fun x1 => diagram_Unscale_loop1 l K x1 (x1.length - 0 + 1) 0 ([] : List Int) 0 ([] : List Step) else K ([] : List Int) ([] : List Step)) = K (unI l).1 (unI l).2 := fun K => by
    cases l with
    | nil => rfl
    | cons x r =>
     have hx := g2 x (by simp)
     rw [if_pos (by simp)]
     exact lun1 (x :: r) x (by omega) (by omega) K x.length 0 [] 0 [] (by omega) (by omega) (by omega) (by simp; omega) (by simp)
   refine Eq.trans (key _) ?_
   obtain ⟨i1, i2, i3⟩ := unI_inv l g2
   show ((sequence_Check (seqI l)).bind fun r3 => _) = _
   rw [lcheck14, Option.bind_some]
   by_cases hc : checkE (seqI l) = 0
   · have R := checkE_zero hc
     by_cases hlen : (unI l).1.length = (unI l).2.length
     · have hsl : (seqI l).steps.length = (unI l).2.length := rfl
       have e := lst_eq (seqI l) R (unI l).1 (wAt (unI l).1) (fun k hk => wAt_at (fun c hc => by have := i1 c hc; omega) (by omega)) (by have := sum_le i1 (by omega) (seqI l).steps.length (by omega); omega)
       have hcond : (checkE (seqI l) != 0 || ((unI l).1.length : Int) != ((unI l).2.length : Int)) = false := by simp [hc, hlen]
       rw [hcond, if_neg (by decide)]
       show ((diagram_stretched (seqI l) (unI l).1).bind _).bind _ = _
       rw [e, Option.bind_some, (eqTl _ _ (by rw [linesW_len]; have := R.n1; omega)), Option.bind_some, Option.bind_some]
       by_cases hd : linesW (seqI l) (wAt (unI l).1) (fun _ => false) (seqI l).actuators.toNat = l
       · rw [decide_eq_true hd, if_neg (by decide), if_pos ⟨hc, hlen, hd⟩]
         rfl
       · rw [decide_eq_false hd, if_pos (by decide), if_neg (fun q => hd q.2.2)]
     · have hcond : (checkE (seqI l) != 0 || ((unI l).1.length : Int) != ((unI l).2.length : Int)) = true := by simp [hc]; omega
       rw [hcond, if_pos rfl, Option.bind_some, if_pos rfl, if_neg (fun q => hlen q.2.1)]
   · have hcond : (checkE (seqI l) != 0 || ((unI l).1.length : Int) != ((unI l).2.length : Int)) = true := by simp [hc]
     rw [hcond, if_pos rfl, Option.bind_some, if_pos rfl, if_neg (fun q => hc q.1)]
 · rw [if_pos (by simpa using hg), if_pos hg]
theorem byte_eq (b c : UInt8) : ((b.toNat : Int) == (c.toNat : Int)) = (b == c) := by
 rw [Bool.eq_iff_iff, beq_iff_eq, beq_iff_eq]
 exact ⟨fun h => UInt8.toNat_inj.1 (by omega), fun h => by rw [h]⟩
theorem run2 (x : List UInt8) (a : Nat) (b : UInt8) (hb : x[a]? = some b) (hx : x.length ≤ 4096) (K : Int → Option (Sequence × List Int)) : ∀ (r : List UInt8) (n f : Nat), x.drop (a + n) = r → a + n ≤ x.length → r.length ≤ f →
 ref16_Unguess_loop2 (a : Int) x K (f + 1) (n : Int) = K ((n + (r.takeWhile (· == b)).length : Nat) : Int)
 | [], n, f, h, hn, hf => by
  have : x.length ≤ a + n := by
   have := congrArg List.length h
   simp at this
   omega
  rw [ref16_Unguess_loop2, wrap64 (by omega) (by omega), if_neg (by rw [decide_eq_true_eq]; omega), Option.bind_some, if_neg (by decide)]
  rfl
 | c :: r, n, f, h, hn, hf => by
  have hlt : a + n < x.length := by
   have := congrArg List.length h
   simp at this
   omega
  have hc : x[a + n] = c := by
   rw [List.drop_eq_getElem_cons hlt] at h
   exact (List.cons.inj h).1
  have hr : x.drop (a + (n + 1)) = r := by
   rw [List.drop_eq_getElem_cons hlt] at h
   exact (List.cons.inj h).2
  have hal : a < x.length := by omega
  have hba : x[a] = b := by rw [List.getElem?_eq_getElem hal] at hb; exact Option.some.inj hb
  cases f with
  | zero => simp at hf
  | succ f =>
   have ih := run2 x a b hb hx K r (n + 1) f hr (by omega) (by simp at hf; omega)
   rw [ref16_Unguess_loop2, wrap64 (by omega) (by omega), if_pos (by rw [decide_eq_true_eq]; omega), show (a : Int) + (n : Int) = ((a + n : Nat) : Int) by omega, byteAt_nat hlt, Option.bind_some, byteAt_nat hal, Option.bind_some, Option.bind_some, byte_eq, hc, hba, List.takeWhile_cons]
   cases hq : (c == b)
   · rw [if_neg (by decide), if_neg (by decide)]
     rfl
   · rw [if_pos rfl, if_pos rfl, wrapN n (by omega), ih, List.length_cons]
     congr 1
     omega
theorem mvs_head (a : Nat) : ∀ (rows : List (List UInt8)) (i : Nat) (y : Stroke) (t : List Stroke), mvs a i rows = y :: t → ∃ j x b, y.actuator = ((i + j : Nat) : Int) ∧ rows[j]? = some x ∧ x[a]? = some b
 | [], i, y, t, h => by simp [mvs] at h
 | x :: r, i, y, t, h => by
  rw [mvs] at h
  cases hx : x[a]? with
  | none =>
   rw [hx] at h
   obtain ⟨j, z, b, h1, h2, h3⟩ := mvs_head a r (i + 1) y t (by simpa using h)
   exact ⟨j + 1, z, b, by rw [h1]; omega, by simpa using h2, h3⟩
  | some b =>
   rw [hx] at h
   dsimp only at h
   unfold mv1 at h
   by_cases h47 : b = 47
   · rw [if_pos h47] at h
     obtain ⟨rfl, _⟩ := List.cons.inj h
     exact ⟨0, x, b, rfl, rfl, hx⟩
   · rw [if_neg h47] at h
     by_cases h92 : b = 92
     · rw [if_pos h92] at h
       obtain ⟨rfl, _⟩ := List.cons.inj h
       exact ⟨0, x, b, rfl, rfl, hx⟩
     · rw [if_neg h92] at h
       obtain ⟨j, z, b, h1, h2, h3⟩ := mvs_head a r (i + 1) y t (by simpa using h)
       exact ⟨j + 1, z, b, by rw [h1]; omega, by simpa using h2, h3⟩
def runAt (x : List UInt8) (a : Nat) : Nat := ((x.drop a).takeWhile (· == (x[a]?.getD 0))).length
def runW (rows : List (List UInt8)) (a : Nat) : Nat := match mvs a 0 rows with | [] => 0 | y :: _ => runAt (rows[y.actuator.toNat]?.getD []) a
theorem runAt_pos {x : List UInt8} {a : Nat} {b : UInt8} (h : x[a]? = some b) : 1 ≤ runAt x a ∧ a + runAt x a ≤ x.length := by
 have hal : a < x.length := by
  rcases Nat.lt_or_ge a x.length with q | q
  · exact q
  · rw [List.getElem?_eq_none q] at h; cases h
 have hb : x[a] = b := by rw [List.getElem?_eq_getElem hal] at h; exact Option.some.inj h
 unfold runAt
 rw [h]
 constructor
 · rw [List.drop_eq_getElem_cons hal, List.takeWhile_cons, hb]
   simp
 · have := (List.takeWhile_sublist (fun c => c == (some b).getD 0) (l := x.drop a)).length_le
   rw [List.length_drop] at this
   omega
def ugGo (rows : List (List UInt8)) : Nat → Nat → List Int → List Step → List Int × List Step
 | 0, _, l1, l2 => (l1, l2)
 | f + 1, a, l1, l2 => if l2.length ≤ 64 ∧ mvs a 0 rows ≠ [] then ugGo rows f (a + runW rows a + 1) (l1 ++ [(runW rows a : Int)]) (l2 ++ [⟨mvs a 0 rows, 0⟩]) else (l1, l2)
theorem runW_eq {rows : List (List UInt8)} {a : Nat} {y : Stroke} {t : List Stroke} (h : mvs a 0 rows = y :: t) : ∃ x b, at? rows y.actuator = some x ∧ x ∈ rows ∧ x[a]? = some b ∧ runW rows a = runAt x a ∧ runAt x a = ((x.drop a).takeWhile (· == b)).length := by
 obtain ⟨j, x, b, h1, h2, h3⟩ := mvs_head a rows 0 y t h
 have hj : y.actuator.toNat = j := by omega
 refine ⟨x, b, ?_, List.mem_of_getElem? h2, h3, ?_, ?_⟩
 · unfold at?
   rw [if_pos (by omega), hj, h2]
 · unfold runW
   rw [h]
   dsimp only
   rw [hj, h2]
   rfl
 · unfold runAt
   rw [h3]
   rfl
theorem rug1 (rows : List (List UInt8)) (hl : rows.length ≤ 1000) (hx : ∀ x ∈ rows, x.length ≤ 4096) : ∀ (f a : Nat) (l1 : List Int) (l2 : List Step), 65 ≤ f + l2.length → l1.length ≤ l2.length → l2.length ≤ 65 → a ≤ 4097 →
 ref16_Unguess_loop1 rows (fun l5 l6 => some ((Sequence.mk (rows.length : Int) l6), l5)) (f + 1) (a : Int) l1 l2 = some (⟨(rows.length : Int), (ugGo rows f a l1 l2).2⟩, (ugGo rows f a l1 l2).1)
 | 0, a, l1, l2, hf, h1, h2, ha => by
  rw [ref16_Unguess_loop1, if_neg (by rw [decide_eq_true_eq]; omega)]
  rfl
 | f + 1, a, l1, l2, hf, h1, h2, ha => by
  rw [ref16_Unguess_loop1, ugGo]
  by_cases hc : l2.length ≤ 64
  · rw [if_pos (by rw [decide_eq_true_eq]; omega), rmv_eq rows a hl, Option.bind_some]
    cases hm : mvs a 0 rows with
    | nil =>
     rw [if_pos (by simp), if_neg (fun q => q.2 rfl)]
    | cons y t =>
     obtain ⟨x, b, e1, e2, e3, e4, e5⟩ := runW_eq hm
     obtain ⟨p1, p2⟩ := runAt_pos e3
     have hxl := hx x e2
     rw [if_neg (by simp; omega), if_pos ⟨hc, by simp⟩, show at? (y :: t) 0 = some y from rfl, Option.bind_some, e1, Option.bind_some]
     unfold joinK
     dsimp only
     have hr := run2 x a b e3 hxl (fun i3 => (appO 32 l2 ([⟨y :: t, 0⟩] : List Step)).bind fun _ => (appO 8 l1 ([i3] : List Int)).bind fun _ => ref16_Unguess_loop1 rows (fun l5 l6 => some ((Sequence.mk (rows.length : Int) l6), l5)) (f + 1) (IntKind.wrap .i64 ((a : Int) + (IntKind.wrap .i64 (i3 + 1)))) (l1 ++ ([i3] : List Int)) (l2 ++ ([⟨y :: t, 0⟩] : List Step))) (x.drop a) 0 4099 rfl (by omega) (by rw [List.length_drop]; omega)
     refine Eq.trans hr ?_
     rw [Nat.zero_add, ← e5, ← e4, appO_ok (by simp; omega) (by decide), Option.bind_some, appO_ok (by simp; omega) (by decide), Option.bind_some, wrap64 (x := (runW rows a : Int) + 1) (by omega) (by omega), wrap64 (by omega) (by omega), show (a : Int) + ((runW rows a : Int) + 1) = ((a + runW rows a + 1 : Nat) : Int) by omega]
     have ih := rug1 rows hl hx f (a + runW rows a + 1) (l1 ++ [(runW rows a : Int)]) (l2 ++ [⟨y :: t, 0⟩]) (by simp; omega) (by simp; omega) (by simp; omega) (by omega)
     exact ih
  · rw [if_neg (by rw [decide_eq_true_eq]; omega), if_neg (fun q => hc q.1)]
theorem ugGo_inv (rows : List (List UInt8)) (hx : ∀ x ∈ rows, x.length ≤ 4096) : ∀ (f a : Nat) (l1 : List Int) (l2 : List Step), l1.length = l2.length → (∀ c ∈ l1, 1 ≤ c) → (∀ t ∈ l2, t.wait = 0) → wsum l1 + 3 = (a : Int) → a ≤ 4097 →
 (ugGo rows f a l1 l2).1.length = (ugGo rows f a l1 l2).2.length ∧ (∀ c ∈ (ugGo rows f a l1 l2).1, 1 ≤ c) ∧ (∀ t ∈ (ugGo rows f a l1 l2).2, t.wait = 0) ∧ wsum (ugGo rows f a l1 l2).1 ≤ 4097
 | 0, a, l1, l2, h0, h1, h2, h3, h4 => ⟨h0, h1, h2, by show wsum l1 ≤ _; omega⟩
 | f + 1, a, l1, l2, h0, h1, h2, h3, h4 => by
  rw [ugGo]
  by_cases hc : l2.length ≤ 64 ∧ mvs a 0 rows ≠ []
  · rw [if_pos hc]
    cases hm : mvs a 0 rows with
    | nil => exact absurd hm hc.2
    | cons y t =>
     obtain ⟨x, b, e1, e2, e3, e4, e5⟩ := runW_eq hm
     obtain ⟨p1, p2⟩ := runAt_pos e3
     have hxl := hx x e2
     refine ugGo_inv rows hx f _ _ _ (by simp [h0]) (fun c hq => ?_) (fun q hq => ?_) (by rw [wsum_snoc]; omega) (by omega)
     · rcases List.mem_append.1 hq with hq | hq
       · exact h1 c hq
       · rw [List.mem_singleton.1 hq]; omega
     · rcases List.mem_append.1 hq with hq | hq
       · exact h2 q hq
       · rw [List.mem_singleton.1 hq]
  · rw [if_neg hc]
    exact ⟨h0, h1, h2, by show wsum l1 ≤ _; omega⟩
def unR (l : List (List UInt8)) : List Int × List Step := ugGo l 69 3 [] []
def seqR (l : List (List UInt8)) : Sequence := ⟨(l.length : Int), (unR l).2⟩
theorem runscale_eq (l : List (List UInt8)) : ref16_Unscale l = some (if givenR l 6 ≠ 0 then (⟨0, []⟩, [], givenR l 6) else if checkE (seqR l) = 0 ∧ linesW (seqR l) (wAt (unR l).1) (fun _ => false) (seqR l).actuators.toNat = l then (seqR l, (unR l).1, 0) else (⟨0, []⟩, [], 4)) := by
 unfold ref16_Unscale
 rw [rlim_eq l 6 (by decide), Option.bind_some]
 by_cases hg : givenR l 6 = 0
 · obtain ⟨g1, g2⟩ := given_zero16 hg
   have hgn : ¬ givenR l 6 ≠ 0 := fun q => q hg
   have hu : ref16_Unguess l = some (seqR l, (unR l).1) := by
    unfold ref16_Unguess joinK
    dsimp only
    exact rug1 l (by omega) g2 69 3 [] [] (by simp) (by simp) (by simp) (by omega)
   obtain ⟨i0, i1, i2, i3⟩ := ugGo_inv l g2 69 3 [] [] rfl (fun c hc => by simp at hc) (fun t ht => by simp at ht) (by simp [wsum]) (by omega)
   rw [if_neg (by simpa using hg), if_neg hgn, hu, Option.bind_some]
   dsimp only
   rw [rcheck14, Option.bind_some]
   by_cases hc : checkE (seqR l) = 0
   · have R := checkE_zero hc
     have hsl : (seqR l).steps.length = (unR l).1.length := i0.symm
     have hsum := sum_le (ws := (unR l).1) i1 (by show wsum (ugGo l 69 3 [] []).1 ≤ 10000; omega)
     have e := rdrawn_eq (seqR l) R (unR l).1 [] (wAt (unR l).1) (fun k hk => ⟨wAt_at (fun c hc => by have := i1 c hc; omega) (by omega), by
      have h1 := sum_wAt (unR l).1 i1 (k + 1) (by omega)
      rw [sumW] at h1
      have h2 : wsum (unR l).1 ≤ 4097 := i3
      omega⟩) (by have := hsum (seqR l).steps.length (by omega); omega) (by simp)
     rw [mkOf_nil] at e
     rw [if_neg (by simpa using hc), e, Option.bind_some, (eqTr _ _ (by rw [linesW_len]; have := R.n1; omega)), Option.bind_some, Option.bind_some]
     by_cases hd : linesW (seqR l) (wAt (unR l).1) (fun _ => false) (seqR l).actuators.toNat = l
     · rw [decide_eq_true hd, if_neg (by decide), if_pos ⟨hc, hd⟩]
     · rw [decide_eq_false hd, if_pos (by decide), if_neg (fun q => hd q.2)]
   · rw [if_pos (by simpa using hc), Option.bind_some, if_pos rfl, if_neg (fun q => hc q.1)]
 · rw [if_pos (by simpa using hg), if_pos hg]
theorem line_ascii (s : Sequence) (i : Nat) (hi : i < 6) (w : Nat → Nat) (k : Nat) : ∀ b ∈ lineW s i w (fun _ => false) k, b.toNat < 128 := fun b hb => by
 have h0 : ∀ i < 6, (UInt8.ofNat (65 + i)).toNat < 128 := by decide
 have hf : ∀ k, (fB s k i).toNat < 128 := fun k => by
  unfold fB restB
  split
  · decide
  · split
    · decide
    · split <;> decide
 have hs : ∀ k, (sB s k i).toNat < 128 := fun k => by
  unfold sB restB
  split <;> decide
 rw [lineW] at hb
 rcases List.mem_append.1 hb with hb | hb
 · simp only [List.mem_cons, List.not_mem_nil, or_false] at hb
   rcases hb with rfl | rfl | rfl
   · exact h0 i hi
   · decide
   · decide
 · obtain ⟨j, _, hj⟩ := List.mem_flatMap.1 hb
   simp only [blk, Bool.false_eq_true, if_false, List.nil_append, List.mem_append, List.mem_replicate, List.mem_singleton] at hj
   rcases hj with ⟨_, rfl⟩ | rfl
   · exact hf j
   · exact hs j
theorem wAt_take {ws : List Int} (h1 : ∀ c ∈ ws, 1 ≤ c) {k : Nat} (hk : k < ws.length) : ws.take (k + 1) = ws.take k ++ [(wAt ws k : Int)] ∧ 1 ≤ wAt ws k := by
 have := h1 ws[k] (List.getElem_mem hk)
 rw [List.take_succ_eq_append_getElem hk, wAt, List.getElem?_eq_getElem hk]
 refine ⟨?_, by simp; omega⟩
 congr 2
 simp
 omega
section
variable {s : Sequence} (R : RightS s) {ws : List Int} (hw : ws.length = s.steps.length) (h1 : ∀ c ∈ ws, 1 ≤ c)
def offK (ws : List Int) (k : Nat) : Nat := 3 + sumW (wAt ws) k + k
theorem offK_succ (ws : List Int) (k : Nat) : offK ws (k + 1) = offK ws k + wAt ws k + 1 := by
 unfold offK
 rw [sumW]
 omega
theorem offK_mono (ws : List Int) {a b : Nat} (h : a ≤ b) : offK ws a ≤ offK ws b := by
 have := sum_mono (wAt ws) h
 unfold offK
 omega
include R hw h1
theorem un_cols {k : Nat} (hk : k < s.steps.length) (L1 : List Int) (L2 : List Step) (h2 : L2.length ≤ 64) : ∀ (d j f : Nat), 1 ≤ j → j + d = wAt ws k →
 unGo (linesW s (wAt ws) (fun _ => false) s.actuators.toNat) (lineW s 0 (wAt ws) (fun _ => false) s.steps.length) (f + d) (j : Int) L1 (offK ws k + j) L2
  = unGo (linesW s (wAt ws) (fun _ => false) s.actuators.toNat) (lineW s 0 (wAt ws) (fun _ => false) s.steps.length) f (wAt ws k : Int) L1 (offK ws k + wAt ws k) L2
 | 0, j, f, h0, hd => by rw [show j = wAt ws k by omega]; rfl
 | d + 1, j, f, h0, hd => by
  have n0 := R.n0
  obtain ⟨_, hg, _⟩ := suits_next R hk
  have hlen := line_exact s 0 (wAt ws) s.steps.length
  have hm := offK_mono ws (show k + 1 ≤ s.steps.length by omega)
  rw [offK_succ] at hm
  have hoff : offK ws s.steps.length = (lineW s 0 (wAt ws) (fun _ => false) s.steps.length).length := by rw [hlen]; rfl
  have hlt : offK ws k + j < (lineW s 0 (wAt ws) (fun _ => false) s.steps.length).length := by omega
  have hmv : mvs (offK ws k + j) 0 (linesW s (wAt ws) (fun _ => false) s.actuators.toNat) = (stepAt s k).strokes := mvs_first R (wAt ws) hk (by omega)
  have h3 : 3 ≤ offK ws k := by unfold offK; omega
  have ih := un_cols hk L1 L2 h2 d (j + 1) f (by omega) (by omega)
  rw [show f + (d + 1) = (f + d) + 1 by omega, unGo, if_pos hlt, if_neg (by omega), hmv, if_pos hg.ne, wd_one hlt (line_ascii s 0 (by decide) _ _ _ (List.getElem_mem _)), if_neg (by omega), ← ih]
  rfl
theorem un_blocks : ∀ (m k f : Nat), k + m = s.steps.length →
 unGo (linesW s (wAt ws) (fun _ => false) s.actuators.toNat) (lineW s 0 (wAt ws) (fun _ => false) s.steps.length) (f + (offK ws s.steps.length - offK ws k)) 0 (ws.take k) (offK ws k) ((s.steps.take k).map still)
  = (ws, s.steps.map still)
 | 0, k, f, h => by
  have hlen := line_exact s 0 (wAt ws) s.steps.length
  have hk : k = s.steps.length := by omega
  subst hk
  rw [Nat.sub_self, List.take_of_length_le (by omega), List.take_of_length_le (Nat.le_refl _)]
  have hoff : offK ws s.steps.length = (lineW s 0 (wAt ws) (fun _ => false) s.steps.length).length := by rw [hlen]; rfl
  cases f with
  | zero => rfl
  | succ f => rw [Nat.add_zero, unGo, if_neg (by omega)]
 | m + 1, k, f, h => by
  have n0 := R.n0
  have hl1 := R.l1
  have hk : k < s.steps.length := by omega
  obtain ⟨_, hg, _⟩ := suits_next R hk
  obtain ⟨ht, hp⟩ := wAt_take h1 (show k < ws.length by omega)
  have hlen := line_exact s 0 (wAt ws) s.steps.length
  have hm := offK_mono ws (show k + 1 ≤ s.steps.length by omega)
  have hs := offK_succ ws k
  have hoff : offK ws s.steps.length = (lineW s 0 (wAt ws) (fun _ => false) s.steps.length).length := by rw [hlen]; rfl
  have h3 : 3 ≤ offK ws k := by unfold offK; omega
  have ih := un_blocks m (k + 1) f (by omega)
  have e1 : mvs (offK ws k + 0) 0 (linesW s (wAt ws) (fun _ => false) s.actuators.toNat) = (stepAt s k).strokes := mvs_first R (wAt ws) hk (by omega)
  have e2 : mvs (offK ws k + wAt ws k) 0 (linesW s (wAt ws) (fun _ => false) s.actuators.toNat) = [] := mvs_second (wAt ws) hk
  rw [Nat.add_zero] at e1
  have hk1 : ((s.steps.take (k + 1)).map still).length ≤ 64 := by rw [List.length_map, List.length_take]; omega
  have hk0 : ((s.steps.take k).map still).length ≤ 64 := by rw [List.length_map, List.length_take]; omega
  have est : (s.steps.take k).map still ++ [⟨(stepAt s k).strokes, 0⟩] = (s.steps.take (k + 1)).map still := by
   rw [List.take_succ_eq_append_getElem hk, List.map_append, stepAt_eq hk]
   rfl
  have hlt : offK ws k < (lineW s 0 (wAt ws) (fun _ => false) s.steps.length).length := by omega
  have hlt2 : offK ws k + wAt ws k < (lineW s 0 (wAt ws) (fun _ => false) s.steps.length).length := by omega
  have hf : f + (offK ws s.steps.length - offK ws k) = ((f + (offK ws s.steps.length - offK ws (k + 1)) + 1) + (wAt ws k - 1)) + 1 := by omega
  rw [hf, unGo, if_pos hlt, if_neg (by omega), e1, if_pos hg.ne, wd_one hlt (line_ascii s 0 (by decide) _ _ _ (List.getElem_mem _)), if_pos rfl, est]
  refine Eq.trans (un_cols R hw h1 hk (ws.take k) ((s.steps.take (k + 1)).map still) hk1 (wAt ws k - 1) 1 (f + (offK ws s.steps.length - offK ws (k + 1)) + 1) (by omega) (by omega)) ?_
  rw [unGo, if_pos hlt2, if_neg (by omega), e2, if_neg (fun q => q rfl), wd_one hlt2 (line_ascii s 0 (by decide) _ _ _ (List.getElem_mem _)), if_pos (by omega), ← ht, ← hs]
  exact ih
theorem unI_back : unI (linesW s (wAt ws) (fun _ => false) s.actuators.toNat) = (ws, s.steps.map still) := by
 have n0 := R.n0
 obtain ⟨r, hr⟩ := linesW_cons R (wAt ws) (fun _ => false)
 have hlen := line_exact s 0 (wAt ws) s.steps.length
 have hoff : offK ws s.steps.length = (lineW s 0 (wAt ws) (fun _ => false) s.steps.length).length := by rw [hlen]; rfl
 have h3 : offK ws 0 = 3 := rfl
 have hm := offK_mono ws (show 0 ≤ s.steps.length by omega)
 have skip : ∀ (n f : Nat), n < 3 → unGo (linesW s (wAt ws) (fun _ => false) s.actuators.toNat) (lineW s 0 (wAt ws) (fun _ => false) s.steps.length) (f + 1) 0 [] n [] = unGo (linesW s (wAt ws) (fun _ => false) s.actuators.toNat) (lineW s 0 (wAt ws) (fun _ => false) s.steps.length) f 0 [] (n + 1) [] := fun n f h => by
  have hlt : n < (lineW s 0 (wAt ws) (fun _ => false) s.steps.length).length := by omega
  rw [unGo, if_pos hlt, if_pos (.inl h), wd_one hlt (line_ascii s 0 (by decide) _ _ _ (List.getElem_mem _))]
 have hb := un_blocks R hw h1 s.steps.length 0 0 (by omega)
 have e : unI (linesW s (wAt ws) (fun _ => false) s.actuators.toNat) = unGo (linesW s (wAt ws) (fun _ => false) s.actuators.toNat) (lineW s 0 (wAt ws) (fun _ => false) s.steps.length) (lineW s 0 (wAt ws) (fun _ => false) s.steps.length).length 0 [] 0 [] := by
  rw [hr]
  rfl
 rw [e, show (lineW s 0 (wAt ws) (fun _ => false) s.steps.length).length = (0 + (offK ws s.steps.length - offK ws 0)) + 1 + 1 + 1 by omega, skip 0 _ (by decide), skip 1 _ (by decide), skip 2 _ (by decide)]
 exact hb
theorem take_run (b c : UInt8) (h : c ≠ b) (r : List UInt8) : ∀ n, (List.replicate n b ++ c :: r).takeWhile (· == b) = List.replicate n b
 | 0 => by
  have : (c == b) = false := by simpa using h
  simp [this]
 | n + 1 => by
  rw [List.replicate_succ, List.cons_append, List.takeWhile_cons, take_run b c h r n]
  simp
theorem ug_blocks : ∀ (m k f : Nat), k + m = s.steps.length → m ≤ f →
 ugGo (linesW s (wAt ws) (fun _ => false) s.actuators.toNat) f (offK ws k) (ws.take k) ((s.steps.take k).map still) = (ws, s.steps.map still)
 | 0, k, f, h, hf => by
  have hk : k = s.steps.length := by omega
  subst hk
  rw [List.take_of_length_le (by omega), List.take_of_length_le (Nat.le_refl _)]
  cases f with
  | zero => rfl
  | succ f =>
   have hno : mvs (offK ws s.steps.length) 0 (linesW s (wAt ws) (fun _ => false) s.actuators.toNat) = [] := by
    rw [linesW, List.range_eq_range', mvs_lines, List.flatMap_eq_nil_iff]
    intro i _
    have := line_exact s i (wAt ws) s.steps.length
    rw [List.getElem?_eq_none (by rw [this]; unfold offK; omega)]
   rw [ugGo, if_neg (fun q => q.2 hno)]
 | m + 1, k, f + 1, h, hf => by
  have hl1 := R.l1
  have hk : k < s.steps.length := by omega
  obtain ⟨_, hg, hy⟩ := suits_next R hk
  obtain ⟨ht, hp⟩ := wAt_take h1 (show k < ws.length by omega)
  have hs := offK_succ ws k
  have ih := ug_blocks m (k + 1) f (by omega) (by omega)
  have e1 : mvs (offK ws k + 0) 0 (linesW s (wAt ws) (fun _ => false) s.actuators.toNat) = (stepAt s k).strokes := mvs_first R (wAt ws) hk (by omega)
  rw [Nat.add_zero] at e1
  have est : (s.steps.take k).map still ++ [⟨(stepAt s k).strokes, 0⟩] = (s.steps.take (k + 1)).map still := by
   rw [List.take_succ_eq_append_getElem hk, List.map_append, stepAt_eq hk]
   rfl
  have hrun : runW (linesW s (wAt ws) (fun _ => false) s.actuators.toNat) (offK ws k) = wAt ws k := by
   unfold runW
   rw [e1]
   cases hst : (stepAt s k).strokes with
   | nil => exact absurd hst hg.ne
   | cons y t =>
    dsimp only
    have hym : y ∈ (stepAt s k).strokes := by rw [hst]; simp
    obtain ⟨y0, y1⟩ := hy y hym
    have hrow : (linesW s (wAt ws) (fun _ => false) s.actuators.toNat)[y.actuator.toNat]?.getD [] = lineW s y.actuator.toNat (wAt ws) (fun _ => false) s.steps.length := by
     simp [linesW, y1]
    obtain ⟨r, hr⟩ := line_split s y.actuator.toNat (wAt ws) k s.steps.length hk
    have hlk := line_exact s y.actuator.toNat (wAt ws) k
    have hne : sB s k y.actuator.toNat ≠ fB s k y.actuator.toNat := by
     have hwy : wayA s k y.actuator.toNat = if y.out = true then 1 else -1 := by
      have := way_of_mem hg.asc y hym
      rw [wayA, show ((y.actuator.toNat : Nat) : Int) = y.actuator by omega]
      exact this
     unfold fB sB
     rw [hwy]
     generalize begB s k y.actuator.toNat = p
     cases y.out <;> cases begB s (k + 1) y.actuator.toNat <;> cases p <;> decide
    have hd : (lineW s y.actuator.toNat (wAt ws) (fun _ => false) s.steps.length).drop (offK ws k) = List.replicate (wAt ws k) (fB s k y.actuator.toNat) ++ sB s k y.actuator.toNat :: r := by
     rw [hr, show offK ws k = (lineW s y.actuator.toNat (wAt ws) (fun _ => false) k).length by rw [hlk]; rfl, List.drop_left]
    have hget := line_first s y.actuator.toNat (wAt ws) hk (show 0 < wAt ws k by omega)
    rw [hrow, runAt, hd, show offK ws k = 3 + sumW (wAt ws) k + k + 0 from rfl, hget, Option.getD_some, take_run R hw h1 _ _ hne, List.length_replicate]
  have hk0 : ((s.steps.take k).map still).length ≤ 64 := by rw [List.length_map, List.length_take]; omega
  rw [ugGo, if_pos ⟨hk0, by rw [e1]; exact hg.ne⟩, hrun, e1, ← ht, est, ← hs]
  exact ih
theorem unR_back : unR (linesW s (wAt ws) (fun _ => false) s.actuators.toNat) = (ws, s.steps.map still) := by
 have hl1 := R.l1
 exact ug_blocks R hw h1 s.steps.length 0 69 (by omega) (by omega)
end
theorem still_of {l : List Step} (h : ∀ t ∈ l, t.wait = 0) : l.map still = l :=
 still_all (List.any_eq_false.2 fun x hx => by rw [h x hx]; simp)
theorem unscale_same (l : List (List UInt8)) : ∃ r : Sequence × List Int × Int, diagram_Unscale l = some r ∧ ref16_Unscale l = some r ∧ (r.1 = ⟨0, []⟩ ∨ checkE r.1 = 0) ∧ r.2.1.length ≤ 64 := by
 rw [lunscale_eq, runscale_eq]
 by_cases hg : givenR l 6 ≠ 0
 · rw [if_pos hg, if_pos hg]
   exact ⟨_, rfl, rfl, .inl rfl, by simp⟩
 · obtain ⟨g1, g2⟩ := given_zero16 (Decidable.not_not.1 hg)
   obtain ⟨a1, a2, a3⟩ := unI_inv l g2
   obtain ⟨b0, b1, b2, b3⟩ := ugGo_inv l g2 69 3 [] [] rfl (fun c hc => by simp at hc) (fun t ht => by simp at ht) (by simp [wsum]) (by omega)
   rw [if_neg hg, if_neg hg]
   by_cases hI : checkE (seqI l) = 0 ∧ (unI l).1.length = (unI l).2.length ∧ linesW (seqI l) (wAt (unI l).1) (fun _ => false) (seqI l).actuators.toNat = l
   · have R := checkE_zero hI.1
     have e := unR_back R (ws := (unI l).1) hI.2.1 a1
     rw [hI.2.2, show (seqI l).steps = (unI l).2 from rfl, still_of a2] at e
     have es : seqR l = seqI l := by unfold seqR seqI; rw [e]
     have e1 : (unR l).1 = (unI l).1 := by rw [e]
     rw [if_pos hI, es, e1, if_pos ⟨hI.1, hI.2.2⟩]
     refine ⟨_, rfl, rfl, .inr hI.1, ?_⟩
     have := R.l1
     show (unI l).1.length ≤ 64
     rw [hI.2.1]
     exact this
   · rw [if_neg hI]
     by_cases hR : checkE (seqR l) = 0 ∧ linesW (seqR l) (wAt (unR l).1) (fun _ => false) (seqR l).actuators.toNat = l
     · have R := checkE_zero hR.1
       have e := unI_back R (ws := (unR l).1) b0 b1
       rw [hR.2, show (seqR l).steps = (unR l).2 from rfl, still_of (l := (unR l).2) b2] at e
       have es : seqI l = seqR l := by unfold seqR seqI; rw [e]
       have e1 : (unI l).1 = (unR l).1 := by rw [e]
       have e2 : (unI l).2 = (unR l).2 := by rw [e]
       exfalso
       apply hI
       rw [es, e1, e2]
       exact ⟨hR.1, b0, hR.2⟩
     · rw [if_neg hR]
       exact ⟨_, rfl, rfl, .inl rfl, by simp⟩
theorem same_ok {a : Sequence} (h : a = ⟨0, []⟩ ∨ checkE a = 0) : ref14_Same a a = some true := by
 rcases h with rfl | h
 · rfl
 · have R := checkE_zero h
   have := R.l1
   exact same16 a (by omega) (fun x hx => by have := (right_lt R x hx).1; omega)
theorem fewl_loop (l : List (List UInt8)) (K : Option Bool) (hK : ∃ b, K = some b) : ∀ (m i : Nat), i + m = 10 → ∃ b, ref16_FewLines_loop1 l K (m + 1) (i : Int) = some b
 | 0, i, h => by
  rw [ref16_FewLines_loop1, if_neg (by simp; omega)]
  exact hK
 | m + 1, i, h => by
  rw [ref16_FewLines_loop1]
  by_cases hl : i < l.length
  · have ih := fewl_loop l K hK m (i + 1) (by omega)
    rw [if_pos (by simp; omega), at_nat hl, Option.bind_some, Option.bind_some, Option.bind_some, wrapN i (by omega)]
    obtain ⟨c, hc⟩ : ∃ c : Bool, (if (decide ((l[i].length : Int) > 300)) = true then (if (decide ((l[i].length : Int) ≤ 4096)) = true then some true else some (decide ((l[i].length : Int) > 8192))).bind fun c2 => some c2 else some false) = some c := by
     split
     · split
       · exact ⟨_, rfl⟩
       · exact ⟨_, rfl⟩
     · exact ⟨_, rfl⟩
    rw [hc, Option.bind_some]
    cases c
    · rw [if_neg (by decide)]; exact ih
    · exact ⟨false, rfl⟩
  · rw [if_neg (by simp; omega)]
    exact hK
theorem fewl_some (l : List (List UInt8)) : ∃ b, ref16_FewLines l = some b := by
 unfold ref16_FewLines joinK
 exact fewl_loop l _ ⟨_, rfl⟩ 10 0 rfl
theorem law_DiagramReads (l : List (List UInt8)) : law16_DiagramReads l = some true := by
 obtain ⟨b, hb⟩ := fewl_some l
 obtain ⟨r, e1, e2, e3⟩ := read_same l
 obtain ⟨u, d1, d2, d3, d4⟩ := unscale_same l
 unfold law16_DiagramReads
 rw [hb, Option.bind_some, awake16]
 cases b
 · rfl
 · rw [if_neg (by decide), e1, e2, d1, d2]
   have s1 := same_ok e3
   have s2 := same_ok d3
   have s3 := eqI_eq u.2.1 (by omega)
   simp [s1, s2, s3]
end Go.Proofs.YtbckcjjffbgidaaGreatDoor.W
