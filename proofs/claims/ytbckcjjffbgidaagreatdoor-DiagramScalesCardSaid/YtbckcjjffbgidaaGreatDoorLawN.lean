/- The plain laws of diagrams, first part: the cells. No program in sight. -/
import Derived.Test.YtbckcjjffbgidaaGreatDoorLawJ
set_option linter.unusedVariables false
set_option linter.unusedSimpArgs false
set_option linter.unnecessarySimpa false
set_option maxHeartbeats 2000000
namespace Go.Proofs.YtbckcjjffbgidaaGreatDoor.W
open Go Go.RowKit
def restI (b : Bool) : Int := if b = true then 45 else 95
def goI (b : Bool) : Int := if b = true then 47 else 92
def rc (b : Bool) : Cell := ⟨restI b, restI b⟩
def gc (b : Bool) : Cell := ⟨goI b, restI b⟩
def rowS (c : List Cell) : List Stroke → List Cell
 | [] => c
 | y :: r => rowS (c.set y.actuator.toNat (gc y.out)) r
theorem rowS_len : ∀ (r : List Stroke) (c : List Cell), (rowS c r).length = c.length
 | [], c => rfl
 | y :: r, c => by rw [rowS, rowS_len r, List.length_set]
theorem rowS_get : ∀ (r : List Stroke) (last : Int) (l : List Cell), Asc last r → ∀ i : Nat, i < l.length →
 (rowS l r)[i]? = if wayS (i : Int) r = 1 then some (gc true) else if wayS (i : Int) r = -1 then some (gc false) else l[i]?
 | [], last, l, _, i, _ => by simp [rowS, wayS]
 | y :: r, last, l, h, i, hi => by
  obtain ⟨h0, h1, h2, h3⟩ := h
  rw [rowS, rowS_get r y.actuator (l.set y.actuator.toNat (gc y.out)) h3 i (by rw [List.length_set]; exact hi), wayS]
  by_cases ha : y.actuator = (i : Int)
  · rw [if_pos ha, way_none h3 (by omega)]
    have e : y.actuator.toNat = i := by omega
    rw [if_neg (by decide), if_neg (by decide), e, List.getElem?_set_self hi]
    cases y.out <;> simp
  · rw [if_neg ha, List.getElem?_set_ne (by omega)]
theorem index_eq (b : Bool) : diagram_index b = some (if b = true then 1 else 0) := by cases b <;> rfl
theorem rest_at (b : Bool) : at? diag_rest (if b = true then 1 else 0) = some (restI b) := by cases b <;> rfl
theorem going_at (b : Bool) : at? diag_going (if b = true then 1 else 0) = some (goI b) := by cases b <;> rfl
theorem set_mid {α : Type} {pre r : List α} {x v : α} : (pre ++ x :: r).set pre.length v = pre ++ v :: r := by simp
/-- the cells of all actuators in step k -/
def stepAt (s : Sequence) (k : Nat) : Step := s.steps[k]?.getD ⟨[], 0⟩
def rowAt (s : Sequence) (k : Nat) : List Cell := rowS ((beh s k).map rc) (stepAt s k).strokes
def cellAt (s : Sequence) (k i : Nat) : Cell := (rowAt s k)[i]?.getD ⟨0, 0⟩
def colAt (s : Sequence) (i k : Nat) : List Cell := (List.range k).map fun k => cellAt s k i
theorem colAt_succ (s : Sequence) (i k : Nat) : colAt s i (k + 1) = colAt s i k ++ [cellAt s k i] := by rw [colAt, List.range_succ, List.map_append]; rfl
theorem colAt_len (s : Sequence) (i k : Nat) : (colAt s i k).length = k := by simp [colAt]
theorem rowAt_len (s : Sequence) (k : Nat) : (rowAt s k).length = s.actuators.toNat := by rw [rowAt, rowS_len, List.length_map, beh_len]
def cellsS (s : Sequence) : List (List Cell) := (List.range s.actuators.toNat).map fun i => colAt s i s.steps.length
theorem at_nat {α : Type} {l : List α} {k : Nat} (h : k < l.length) : at? l (k : Int) = some l[k] := by
 unfold at?
 rw [if_pos (by omega), show ((k : Nat) : Int).toNat = k by omega, List.getElem?_eq_getElem h]
theorem stepAt_eq {s : Sequence} {k : Nat} (h : k < s.steps.length) : stepAt s k = s.steps[k] := by rw [stepAt, List.getElem?_eq_getElem h]; rfl
theorem beh_next {s : Sequence} {k : Nat} (h : k < s.steps.length) : beh s (k + 1) = setL (beh s k) (stepAt s k).strokes := by
 rw [beh, List.take_succ_eq_append_getElem h, behL_app, stepAt_eq h]
 rfl
theorem wrapN (k : Nat) (h : k ≤ 1000000) : IntKind.wrap .i64 ((k : Int) + 1) = ((k + 1 : Nat) : Int) := by rw [wrap64 (by omega) (by omega)]; omega
theorem suits_next {s : Sequence} (R : RightS s) {k : Nat} (h : k < s.steps.length) : suitsB (stepAt s k) (beh s k) = true ∧ GoodS (stepAt s k) ∧ ∀ y ∈ (stepAt s k).strokes, 0 ≤ y.actuator ∧ y.actuator.toNat < s.actuators.toNat := by
 have e : s.steps = s.steps.take k ++ s.steps[k] :: s.steps.drop (k + 1) := by rw [← List.drop_eq_getElem_cons h, List.take_append_drop]
 have hs := R.fit _ _ _ e
 have hg := R.good s.steps[k] (List.getElem_mem h)
 rw [stepAt_eq h]
 refine ⟨hs, hg.1, fun y hy => ?_⟩
 have := suits_all hg.1 hs y hy
 rw [behL_len, zeros_len] at this
 exact this

theorem cells1_loop2 (l1 : List Bool) (K : List Cell → Option (List (List Cell))) (hl : l1.length ≤ 1000) : ∀ (r pre : List Bool), l1 = pre ++ r →
 diagram_cells1_loop2 l1 K (r.length + 1) (pre.length : Int) (pre.map rc ++ List.replicate r.length (Cell.mk 0 0)) = K (l1.map rc)
 | [], pre, e => by
  rw [diagram_cells1_loop2, end_mid e, if_neg (by simp), e]
  simp
 | b :: r, pre, e => by
  obtain ⟨h1, h2, h3, h4, h5⟩ := step_mid e (by omega)
  have ih := cells1_loop2 l1 K hl r (pre ++ [b]) h4
  have hz : at? (pre.map rc ++ List.replicate (b :: r).length (Cell.mk 0 0)) (pre.length : Int) = some (Cell.mk 0 0) := by
   have := at?_mid (pre := pre.map rc) (x := Cell.mk 0 0) (r := List.replicate r.length (Cell.mk 0 0))
   rw [List.length_map] at this
   exact this
  have hs : (pre.map rc ++ List.replicate (b :: r).length (Cell.mk 0 0)).set (pre.length : Int).toNat (rc b) = (pre ++ [b]).map rc ++ List.replicate r.length (Cell.mk 0 0) := by
   have := set_mid (pre := pre.map rc) (x := Cell.mk 0 0) (v := rc b) (r := List.replicate r.length (Cell.mk 0 0))
   rw [List.length_map] at this
   rw [Int.toNat_natCast, List.map_append, List.append_assoc]
   exact this
  rw [List.length_cons] at hz hs
  rw [diagram_cells1_loop2, h1, if_pos rfl, h2]
  simp only [Option.bind_some, index_eq, rest_at, List.length_cons, hz, h3]
  refine Eq.trans (congrArg (diagram_cells1_loop2 l1 K _ _) hs) ih
theorem cells1_loop3 (x : Step) (K : List Bool → List Cell → Option (List (List Cell))) (hl : x.strokes.length ≤ 100) : ∀ (r pre : List Stroke) (l : List Bool) (c : List Cell), x.strokes = pre ++ r → (∀ y ∈ r, 0 ≤ y.actuator ∧ y.actuator.toNat < l.length) → c.length = l.length →
 diagram_cells1_loop3 x K (r.length + 1) (pre.length : Int) l c = K (setL l r) (rowS c r)
 | [], pre, l, c, e, _, _ => by
  rw [diagram_cells1_loop3, end_mid e, if_neg (by simp)]
  rfl
 | y :: r, pre, l, c, e, hy, hc => by
  obtain ⟨h1, h2, h3, h4, h5⟩ := step_mid e (by omega)
  obtain ⟨p0, p1⟩ := hy y (by simp)
  have ih := cells1_loop3 x K hl r (pre ++ [y]) (l.set y.actuator.toNat y.out) (c.set y.actuator.toNat (gc y.out)) h4 (fun z hz => by rw [List.length_set]; exact hy z (by simp [hz])) (by rw [List.length_set, List.length_set, hc])
  have e1 : at? l y.actuator = some l[y.actuator.toNat] := by unfold at?; rw [if_pos p0, List.getElem?_eq_getElem p1]
  have e2 : at? c y.actuator = some (c[y.actuator.toNat]'(by omega)) := by unfold at?; rw [if_pos p0, List.getElem?_eq_getElem (by omega)]
  rw [diagram_cells1_loop3, h1, if_pos rfl, h2]
  simp only [Option.bind_some, e1, index_eq, going_at, rest_at, e2, List.length_cons, h3]
  exact ih
theorem cells1_loop4 (K : List Bool → List Cell → Option (List (List Cell))) (l : List Bool) (x0 : Cell) (a0 : List Cell) (h0 : a0.length ≤ 1000) :
 diagram_cells1_loop4 K [x0] l (Int.toNat (1 - 0) + 1) 0 a0 = K l (a0 ++ [x0]) := by
 have e0 : appO 2 a0 [x0] = some (a0 ++ [x0]) := appO_ok (by simp only [List.length_cons, List.length_nil]; omega) (by decide)
 show diagram_cells1_loop4 K [x0] l 2 0 a0 = _
 rw [diagram_cells1_loop4, if_pos (by decide), if_pos (by decide), show at? [x0] 0 = some x0 from rfl, Option.bind_some, e0, Option.bind_some, show IntKind.wrap .i64 (0 + 1) = 1 by decide]
 rw [diagram_cells1_loop4, if_neg (by decide)]
theorem cells1_loop1 (s : Sequence) (R : RightS s) (hn : s.actuators = 1) (K : List Cell → Option (List (List Cell))) : ∀ (m k : Nat), k + m = s.steps.length →
 diagram_cells1_loop1 s K (m + 1) (k : Int) (beh s k) (colAt s 0 k) = K (colAt s 0 s.steps.length)
 | 0, k, h => by
  rw [diagram_cells1_loop1, if_neg (by rw [decide_eq_true_eq]; omega), show k = s.steps.length by omega]
 | m + 1, k, h => by
  have hk : k < s.steps.length := by omega
  have hl1 := R.l1
  have ih := cells1_loop1 s R hn K m (k + 1) (by omega)
  obtain ⟨hs, hg, hy⟩ := suits_next R hk
  have hf := hg.few
  have hb := beh_len s k
  have l2 : ∀ K, diagram_cells1_loop2 (beh s k) K (Int.toNat (((beh s k).length : Int) - 0) + 1) 0 (List.replicate (Int.toNat s.actuators) (Cell.mk 0 0)) = K ((beh s k).map rc) := fun K => by
   rw [fuel0, ← hb]
   exact cells1_loop2 (beh s k) K (by rw [hb, hn]; decide) (beh s k) [] rfl
  have l3 : ∀ K, diagram_cells1_loop3 (stepAt s k) K (Int.toNat (((stepAt s k).strokes.length : Int) - 0) + 1) 0 (beh s k) ((beh s k).map rc) = K (beh s (k + 1)) (rowAt s k) := fun K => by
   rw [fuel0]
   refine Eq.trans (cells1_loop3 (stepAt s k) K (by omega) (stepAt s k).strokes [] (beh s k) ((beh s k).map rc) rfl (fun y q => by rw [hb]; exact hy y q) (by rw [List.length_map])) ?_
   rw [← beh_next hk, rowAt]
  have hrow : rowAt s k = [cellAt s k 0] := by
   have := rowAt_len s k
   rw [hn] at this
   match hr : rowAt s k, this with
   | [q0], _ => simp [cellAt, hr]
  have l4 := fun K => cells1_loop4 K (beh s (k + 1)) (cellAt s k 0) (colAt s 0 k) (by rw [colAt_len]; omega)
  rw [diagram_cells1_loop1, if_pos (by rw [decide_eq_true_eq]; omega)]
  unfold joinK guardO
  dsimp only
  rw [at_nat hk, Option.bind_some, if_pos (by rw [hn]; decide), Option.bind_some]
  refine Eq.trans (l2 _) ?_
  rw [← stepAt_eq hk]
  refine Eq.trans (l3 _) ?_
  rw [hrow]
  refine Eq.trans (l4 _) ?_
  rw [wrapN k (by omega)]
  refine Eq.trans ?_ ih
  simp only [← colAt_succ]
theorem cells1_eq (s : Sequence) (R : RightS s) (hn : s.actuators = 1) : diagram_cells1 s = some (cellsS s) := by
 unfold diagram_cells1 joinK guardO
 dsimp only
 rw [if_pos (by rw [hn]; decide), Option.bind_some, fuel0]
 refine Eq.trans (cells1_loop1 s R hn _ s.steps.length 0 (by omega)) ?_
 rw [cellsS, hn]
 rfl
theorem cells2_loop4 (K : List Bool → List Cell → List Cell → Option (List (List Cell))) (l : List Bool) (x0 x1 : Cell) (a0 a1 : List Cell) (h0 : a0.length ≤ 1000) (h1 : a1.length ≤ 1000) :
 diagram_cells2_loop4 K [x0, x1] l (Int.toNat (2 - 0) + 1) 0 a0 a1 = K l (a0 ++ [x0]) (a1 ++ [x1]) := by
 have e0 : appO 2 a0 [x0] = some (a0 ++ [x0]) := appO_ok (by simp only [List.length_cons, List.length_nil]; omega) (by decide)
 have e1 : appO 2 a1 [x1] = some (a1 ++ [x1]) := appO_ok (by simp only [List.length_cons, List.length_nil]; omega) (by decide)
 show diagram_cells2_loop4 K [x0, x1] l 3 0 a0 a1 = _
 rw [diagram_cells2_loop4, if_pos (by decide), if_pos (by decide), show at? [x0, x1] 0 = some x0 from rfl, Option.bind_some, e0, Option.bind_some, show IntKind.wrap .i64 (0 + 1) = 1 by decide]
 rw [diagram_cells2_loop4, if_pos (by decide), if_neg (by decide), if_pos (by decide), show at? [x0, x1] 1 = some x1 from rfl, Option.bind_some, e1, Option.bind_some, show IntKind.wrap .i64 (1 + 1) = 2 by decide]
 rw [diagram_cells2_loop4, if_neg (by decide)]
theorem cells2_loop1 (s : Sequence) (R : RightS s) (hn : s.actuators = 2) (K : List Cell → List Cell → Option (List (List Cell))) : ∀ (m k : Nat), k + m = s.steps.length →
 diagram_cells2_loop1 s K (m + 1) (k : Int) (beh s k) (colAt s 0 k) (colAt s 1 k) = K (colAt s 0 s.steps.length) (colAt s 1 s.steps.length)
 | 0, k, h => by
  rw [diagram_cells2_loop1, if_neg (by rw [decide_eq_true_eq]; omega), show k = s.steps.length by omega]
 | m + 1, k, h => by
  have hk : k < s.steps.length := by omega
  have hl1 := R.l1
  have ih := cells2_loop1 s R hn K m (k + 1) (by omega)
  obtain ⟨hs, hg, hy⟩ := suits_next R hk
  have hf := hg.few
  have hb := beh_len s k
  have l2 : ∀ K, diagram_cells1_loop2 (beh s k) K (Int.toNat (((beh s k).length : Int) - 0) + 1) 0 (List.replicate (Int.toNat s.actuators) (Cell.mk 0 0)) = K ((beh s k).map rc) := fun K => by
   rw [fuel0, ← hb]
   exact cells1_loop2 (beh s k) K (by rw [hb, hn]; decide) (beh s k) [] rfl
  have l3 : ∀ K, diagram_cells1_loop3 (stepAt s k) K (Int.toNat (((stepAt s k).strokes.length : Int) - 0) + 1) 0 (beh s k) ((beh s k).map rc) = K (beh s (k + 1)) (rowAt s k) := fun K => by
   rw [fuel0]
   refine Eq.trans (cells1_loop3 (stepAt s k) K (by omega) (stepAt s k).strokes [] (beh s k) ((beh s k).map rc) rfl (fun y q => by rw [hb]; exact hy y q) (by rw [List.length_map])) ?_
   rw [← beh_next hk, rowAt]
  have hrow : rowAt s k = [cellAt s k 0, cellAt s k 1] := by
   have := rowAt_len s k
   rw [hn] at this
   match hr : rowAt s k, this with
   | [q0, q1], _ => simp [cellAt, hr]
  have l4 := fun K => cells2_loop4 K (beh s (k + 1)) (cellAt s k 0) (cellAt s k 1) (colAt s 0 k) (colAt s 1 k) (by rw [colAt_len]; omega) (by rw [colAt_len]; omega)
  rw [diagram_cells2_loop1, if_pos (by rw [decide_eq_true_eq]; omega)]
  unfold joinK guardO
  dsimp only
  rw [at_nat hk, Option.bind_some, if_pos (by rw [hn]; decide), Option.bind_some]
  refine Eq.trans (l2 _) ?_
  rw [← stepAt_eq hk]
  refine Eq.trans (l3 _) ?_
  rw [hrow]
  refine Eq.trans (l4 _) ?_
  rw [wrapN k (by omega)]
  refine Eq.trans ?_ ih
  simp only [← colAt_succ]
theorem cells2_eq (s : Sequence) (R : RightS s) (hn : s.actuators = 2) : diagram_cells2 s = some (cellsS s) := by
 unfold diagram_cells2 joinK guardO
 dsimp only
 rw [if_pos (by rw [hn]; decide), Option.bind_some, fuel0]
 refine Eq.trans (cells2_loop1 s R hn _ s.steps.length 0 (by omega)) ?_
 rw [cellsS, hn]
 rfl
theorem cells3_loop4 (K : List Bool → List Cell → List Cell → List Cell → Option (List (List Cell))) (l : List Bool) (x0 x1 x2 : Cell) (a0 a1 a2 : List Cell) (h0 : a0.length ≤ 1000) (h1 : a1.length ≤ 1000) (h2 : a2.length ≤ 1000) :
 diagram_cells3_loop4 K [x0, x1, x2] l (Int.toNat (3 - 0) + 1) 0 a0 a1 a2 = K l (a0 ++ [x0]) (a1 ++ [x1]) (a2 ++ [x2]) := by
 have e0 : appO 2 a0 [x0] = some (a0 ++ [x0]) := appO_ok (by simp only [List.length_cons, List.length_nil]; omega) (by decide)
 have e1 : appO 2 a1 [x1] = some (a1 ++ [x1]) := appO_ok (by simp only [List.length_cons, List.length_nil]; omega) (by decide)
 have e2 : appO 2 a2 [x2] = some (a2 ++ [x2]) := appO_ok (by simp only [List.length_cons, List.length_nil]; omega) (by decide)
 show diagram_cells3_loop4 K [x0, x1, x2] l 4 0 a0 a1 a2 = _
 rw [diagram_cells3_loop4, if_pos (by decide), if_pos (by decide), show at? [x0, x1, x2] 0 = some x0 from rfl, Option.bind_some, e0, Option.bind_some, show IntKind.wrap .i64 (0 + 1) = 1 by decide]
 rw [diagram_cells3_loop4, if_pos (by decide), if_neg (by decide), if_pos (by decide), show at? [x0, x1, x2] 1 = some x1 from rfl, Option.bind_some, e1, Option.bind_some, show IntKind.wrap .i64 (1 + 1) = 2 by decide]
 rw [diagram_cells3_loop4, if_pos (by decide), if_neg (by decide), if_neg (by decide), if_pos (by decide), show at? [x0, x1, x2] 2 = some x2 from rfl, Option.bind_some, e2, Option.bind_some, show IntKind.wrap .i64 (2 + 1) = 3 by decide]
 rw [diagram_cells3_loop4, if_neg (by decide)]
theorem cells3_loop1 (s : Sequence) (R : RightS s) (hn : s.actuators = 3) (K : List Cell → List Cell → List Cell → Option (List (List Cell))) : ∀ (m k : Nat), k + m = s.steps.length →
 diagram_cells3_loop1 s K (m + 1) (k : Int) (beh s k) (colAt s 0 k) (colAt s 1 k) (colAt s 2 k) = K (colAt s 0 s.steps.length) (colAt s 1 s.steps.length) (colAt s 2 s.steps.length)
 | 0, k, h => by
  rw [diagram_cells3_loop1, if_neg (by rw [decide_eq_true_eq]; omega), show k = s.steps.length by omega]
 | m + 1, k, h => by
  have hk : k < s.steps.length := by omega
  have hl1 := R.l1
  have ih := cells3_loop1 s R hn K m (k + 1) (by omega)
  obtain ⟨hs, hg, hy⟩ := suits_next R hk
  have hf := hg.few
  have hb := beh_len s k
  have l2 : ∀ K, diagram_cells1_loop2 (beh s k) K (Int.toNat (((beh s k).length : Int) - 0) + 1) 0 (List.replicate (Int.toNat s.actuators) (Cell.mk 0 0)) = K ((beh s k).map rc) := fun K => by
   rw [fuel0, ← hb]
   exact cells1_loop2 (beh s k) K (by rw [hb, hn]; decide) (beh s k) [] rfl
  have l3 : ∀ K, diagram_cells1_loop3 (stepAt s k) K (Int.toNat (((stepAt s k).strokes.length : Int) - 0) + 1) 0 (beh s k) ((beh s k).map rc) = K (beh s (k + 1)) (rowAt s k) := fun K => by
   rw [fuel0]
   refine Eq.trans (cells1_loop3 (stepAt s k) K (by omega) (stepAt s k).strokes [] (beh s k) ((beh s k).map rc) rfl (fun y q => by rw [hb]; exact hy y q) (by rw [List.length_map])) ?_
   rw [← beh_next hk, rowAt]
  have hrow : rowAt s k = [cellAt s k 0, cellAt s k 1, cellAt s k 2] := by
   have := rowAt_len s k
   rw [hn] at this
   match hr : rowAt s k, this with
   | [q0, q1, q2], _ => simp [cellAt, hr]
  have l4 := fun K => cells3_loop4 K (beh s (k + 1)) (cellAt s k 0) (cellAt s k 1) (cellAt s k 2) (colAt s 0 k) (colAt s 1 k) (colAt s 2 k) (by rw [colAt_len]; omega) (by rw [colAt_len]; omega) (by rw [colAt_len]; omega)
  rw [diagram_cells3_loop1, if_pos (by rw [decide_eq_true_eq]; omega)]
  unfold joinK guardO
  dsimp only
  rw [at_nat hk, Option.bind_some, if_pos (by rw [hn]; decide), Option.bind_some]
  refine Eq.trans (l2 _) ?_
  rw [← stepAt_eq hk]
  refine Eq.trans (l3 _) ?_
  rw [hrow]
  refine Eq.trans (l4 _) ?_
  rw [wrapN k (by omega)]
  refine Eq.trans ?_ ih
  simp only [← colAt_succ]
theorem cells3_eq (s : Sequence) (R : RightS s) (hn : s.actuators = 3) : diagram_cells3 s = some (cellsS s) := by
 unfold diagram_cells3 joinK guardO
 dsimp only
 rw [if_pos (by rw [hn]; decide), Option.bind_some, fuel0]
 refine Eq.trans (cells3_loop1 s R hn _ s.steps.length 0 (by omega)) ?_
 rw [cellsS, hn]
 rfl
theorem cells4_loop4 (K : List Bool → List Cell → List Cell → List Cell → List Cell → Option (List (List Cell))) (l : List Bool) (x0 x1 x2 x3 : Cell) (a0 a1 a2 a3 : List Cell) (h0 : a0.length ≤ 1000) (h1 : a1.length ≤ 1000) (h2 : a2.length ≤ 1000) (h3 : a3.length ≤ 1000) :
 diagram_cells4_loop4 K [x0, x1, x2, x3] l (Int.toNat (4 - 0) + 1) 0 a0 a1 a2 a3 = K l (a0 ++ [x0]) (a1 ++ [x1]) (a2 ++ [x2]) (a3 ++ [x3]) := by
 have e0 : appO 2 a0 [x0] = some (a0 ++ [x0]) := appO_ok (by simp only [List.length_cons, List.length_nil]; omega) (by decide)
 have e1 : appO 2 a1 [x1] = some (a1 ++ [x1]) := appO_ok (by simp only [List.length_cons, List.length_nil]; omega) (by decide)
 have e2 : appO 2 a2 [x2] = some (a2 ++ [x2]) := appO_ok (by simp only [List.length_cons, List.length_nil]; omega) (by decide)
 have e3 : appO 2 a3 [x3] = some (a3 ++ [x3]) := appO_ok (by simp only [List.length_cons, List.length_nil]; omega) (by decide)
 show diagram_cells4_loop4 K [x0, x1, x2, x3] l 5 0 a0 a1 a2 a3 = _
 rw [diagram_cells4_loop4, if_pos (by decide), if_pos (by decide), show at? [x0, x1, x2, x3] 0 = some x0 from rfl, Option.bind_some, e0, Option.bind_some, show IntKind.wrap .i64 (0 + 1) = 1 by decide]
 rw [diagram_cells4_loop4, if_pos (by decide), if_neg (by decide), if_pos (by decide), show at? [x0, x1, x2, x3] 1 = some x1 from rfl, Option.bind_some, e1, Option.bind_some, show IntKind.wrap .i64 (1 + 1) = 2 by decide]
 rw [diagram_cells4_loop4, if_pos (by decide), if_neg (by decide), if_neg (by decide), if_pos (by decide), show at? [x0, x1, x2, x3] 2 = some x2 from rfl, Option.bind_some, e2, Option.bind_some, show IntKind.wrap .i64 (2 + 1) = 3 by decide]
 rw [diagram_cells4_loop4, if_pos (by decide), if_neg (by decide), if_neg (by decide), if_neg (by decide), if_pos (by decide), show at? [x0, x1, x2, x3] 3 = some x3 from rfl, Option.bind_some, e3, Option.bind_some, show IntKind.wrap .i64 (3 + 1) = 4 by decide]
 rw [diagram_cells4_loop4, if_neg (by decide)]
theorem cells4_loop1 (s : Sequence) (R : RightS s) (hn : s.actuators = 4) (K : List Cell → List Cell → List Cell → List Cell → Option (List (List Cell))) : ∀ (m k : Nat), k + m = s.steps.length →
 diagram_cells4_loop1 s K (m + 1) (k : Int) (beh s k) (colAt s 0 k) (colAt s 1 k) (colAt s 2 k) (colAt s 3 k) = K (colAt s 0 s.steps.length) (colAt s 1 s.steps.length) (colAt s 2 s.steps.length) (colAt s 3 s.steps.length)
 | 0, k, h => by
  rw [diagram_cells4_loop1, if_neg (by rw [decide_eq_true_eq]; omega), show k = s.steps.length by omega]
 | m + 1, k, h => by
  have hk : k < s.steps.length := by omega
  have hl1 := R.l1
  have ih := cells4_loop1 s R hn K m (k + 1) (by omega)
  obtain ⟨hs, hg, hy⟩ := suits_next R hk
  have hf := hg.few
  have hb := beh_len s k
  have l2 : ∀ K, diagram_cells1_loop2 (beh s k) K (Int.toNat (((beh s k).length : Int) - 0) + 1) 0 (List.replicate (Int.toNat s.actuators) (Cell.mk 0 0)) = K ((beh s k).map rc) := fun K => by
   rw [fuel0, ← hb]
   exact cells1_loop2 (beh s k) K (by rw [hb, hn]; decide) (beh s k) [] rfl
  have l3 : ∀ K, diagram_cells1_loop3 (stepAt s k) K (Int.toNat (((stepAt s k).strokes.length : Int) - 0) + 1) 0 (beh s k) ((beh s k).map rc) = K (beh s (k + 1)) (rowAt s k) := fun K => by
   rw [fuel0]
   refine Eq.trans (cells1_loop3 (stepAt s k) K (by omega) (stepAt s k).strokes [] (beh s k) ((beh s k).map rc) rfl (fun y q => by rw [hb]; exact hy y q) (by rw [List.length_map])) ?_
   rw [← beh_next hk, rowAt]
  have hrow : rowAt s k = [cellAt s k 0, cellAt s k 1, cellAt s k 2, cellAt s k 3] := by
   have := rowAt_len s k
   rw [hn] at this
   match hr : rowAt s k, this with
   | [q0, q1, q2, q3], _ => simp [cellAt, hr]
  have l4 := fun K => cells4_loop4 K (beh s (k + 1)) (cellAt s k 0) (cellAt s k 1) (cellAt s k 2) (cellAt s k 3) (colAt s 0 k) (colAt s 1 k) (colAt s 2 k) (colAt s 3 k) (by rw [colAt_len]; omega) (by rw [colAt_len]; omega) (by rw [colAt_len]; omega) (by rw [colAt_len]; omega)
  rw [diagram_cells4_loop1, if_pos (by rw [decide_eq_true_eq]; omega)]
  unfold joinK guardO
  dsimp only
  rw [at_nat hk, Option.bind_some, if_pos (by rw [hn]; decide), Option.bind_some]
  refine Eq.trans (l2 _) ?_
  rw [← stepAt_eq hk]
  refine Eq.trans (l3 _) ?_
  rw [hrow]
  refine Eq.trans (l4 _) ?_
  rw [wrapN k (by omega)]
  refine Eq.trans ?_ ih
  simp only [← colAt_succ]
theorem cells4_eq (s : Sequence) (R : RightS s) (hn : s.actuators = 4) : diagram_cells4 s = some (cellsS s) := by
 unfold diagram_cells4 joinK guardO
 dsimp only
 rw [if_pos (by rw [hn]; decide), Option.bind_some, fuel0]
 refine Eq.trans (cells4_loop1 s R hn _ s.steps.length 0 (by omega)) ?_
 rw [cellsS, hn]
 rfl
theorem cells5_loop4 (K : List Bool → List Cell → List Cell → List Cell → List Cell → List Cell → Option (List (List Cell))) (l : List Bool) (x0 x1 x2 x3 x4 : Cell) (a0 a1 a2 a3 a4 : List Cell) (h0 : a0.length ≤ 1000) (h1 : a1.length ≤ 1000) (h2 : a2.length ≤ 1000) (h3 : a3.length ≤ 1000) (h4 : a4.length ≤ 1000) :
 diagram_cells5_loop4 K [x0, x1, x2, x3, x4] l (Int.toNat (5 - 0) + 1) 0 a0 a1 a2 a3 a4 = K l (a0 ++ [x0]) (a1 ++ [x1]) (a2 ++ [x2]) (a3 ++ [x3]) (a4 ++ [x4]) := by
 have e0 : appO 2 a0 [x0] = some (a0 ++ [x0]) := appO_ok (by simp only [List.length_cons, List.length_nil]; omega) (by decide)
 have e1 : appO 2 a1 [x1] = some (a1 ++ [x1]) := appO_ok (by simp only [List.length_cons, List.length_nil]; omega) (by decide)
 have e2 : appO 2 a2 [x2] = some (a2 ++ [x2]) := appO_ok (by simp only [List.length_cons, List.length_nil]; omega) (by decide)
 have e3 : appO 2 a3 [x3] = some (a3 ++ [x3]) := appO_ok (by simp only [List.length_cons, List.length_nil]; omega) (by decide)
 have e4 : appO 2 a4 [x4] = some (a4 ++ [x4]) := appO_ok (by simp only [List.length_cons, List.length_nil]; omega) (by decide)
 show diagram_cells5_loop4 K [x0, x1, x2, x3, x4] l 6 0 a0 a1 a2 a3 a4 = _
 rw [diagram_cells5_loop4, if_pos (by decide), if_pos (by decide), show at? [x0, x1, x2, x3, x4] 0 = some x0 from rfl, Option.bind_some, e0, Option.bind_some, show IntKind.wrap .i64 (0 + 1) = 1 by decide]
 rw [diagram_cells5_loop4, if_pos (by decide), if_neg (by decide), if_pos (by decide), show at? [x0, x1, x2, x3, x4] 1 = some x1 from rfl, Option.bind_some, e1, Option.bind_some, show IntKind.wrap .i64 (1 + 1) = 2 by decide]
 rw [diagram_cells5_loop4, if_pos (by decide), if_neg (by decide), if_neg (by decide), if_pos (by decide), show at? [x0, x1, x2, x3, x4] 2 = some x2 from rfl, Option.bind_some, e2, Option.bind_some, show IntKind.wrap .i64 (2 + 1) = 3 by decide]
 rw [diagram_cells5_loop4, if_pos (by decide), if_neg (by decide), if_neg (by decide), if_neg (by decide), if_pos (by decide), show at? [x0, x1, x2, x3, x4] 3 = some x3 from rfl, Option.bind_some, e3, Option.bind_some, show IntKind.wrap .i64 (3 + 1) = 4 by decide]
 rw [diagram_cells5_loop4, if_pos (by decide), if_neg (by decide), if_neg (by decide), if_neg (by decide), if_neg (by decide), if_pos (by decide), show at? [x0, x1, x2, x3, x4] 4 = some x4 from rfl, Option.bind_some, e4, Option.bind_some, show IntKind.wrap .i64 (4 + 1) = 5 by decide]
 rw [diagram_cells5_loop4, if_neg (by decide)]
theorem cells5_loop1 (s : Sequence) (R : RightS s) (hn : s.actuators = 5) (K : List Cell → List Cell → List Cell → List Cell → List Cell → Option (List (List Cell))) : ∀ (m k : Nat), k + m = s.steps.length →
 diagram_cells5_loop1 s K (m + 1) (k : Int) (beh s k) (colAt s 0 k) (colAt s 1 k) (colAt s 2 k) (colAt s 3 k) (colAt s 4 k) = K (colAt s 0 s.steps.length) (colAt s 1 s.steps.length) (colAt s 2 s.steps.length) (colAt s 3 s.steps.length) (colAt s 4 s.steps.length)
 | 0, k, h => by
  rw [diagram_cells5_loop1, if_neg (by rw [decide_eq_true_eq]; omega), show k = s.steps.length by omega]
 | m + 1, k, h => by
  have hk : k < s.steps.length := by omega
  have hl1 := R.l1
  have ih := cells5_loop1 s R hn K m (k + 1) (by omega)
  obtain ⟨hs, hg, hy⟩ := suits_next R hk
  have hf := hg.few
  have hb := beh_len s k
  have l2 : ∀ K, diagram_cells1_loop2 (beh s k) K (Int.toNat (((beh s k).length : Int) - 0) + 1) 0 (List.replicate (Int.toNat s.actuators) (Cell.mk 0 0)) = K ((beh s k).map rc) := fun K => by
   rw [fuel0, ← hb]
   exact cells1_loop2 (beh s k) K (by rw [hb, hn]; decide) (beh s k) [] rfl
  have l3 : ∀ K, diagram_cells1_loop3 (stepAt s k) K (Int.toNat (((stepAt s k).strokes.length : Int) - 0) + 1) 0 (beh s k) ((beh s k).map rc) = K (beh s (k + 1)) (rowAt s k) := fun K => by
   rw [fuel0]
   refine Eq.trans (cells1_loop3 (stepAt s k) K (by omega) (stepAt s k).strokes [] (beh s k) ((beh s k).map rc) rfl (fun y q => by rw [hb]; exact hy y q) (by rw [List.length_map])) ?_
   rw [← beh_next hk, rowAt]
  have hrow : rowAt s k = [cellAt s k 0, cellAt s k 1, cellAt s k 2, cellAt s k 3, cellAt s k 4] := by
   have := rowAt_len s k
   rw [hn] at this
   match hr : rowAt s k, this with
   | [q0, q1, q2, q3, q4], _ => simp [cellAt, hr]
  have l4 := fun K => cells5_loop4 K (beh s (k + 1)) (cellAt s k 0) (cellAt s k 1) (cellAt s k 2) (cellAt s k 3) (cellAt s k 4) (colAt s 0 k) (colAt s 1 k) (colAt s 2 k) (colAt s 3 k) (colAt s 4 k) (by rw [colAt_len]; omega) (by rw [colAt_len]; omega) (by rw [colAt_len]; omega) (by rw [colAt_len]; omega) (by rw [colAt_len]; omega)
  rw [diagram_cells5_loop1, if_pos (by rw [decide_eq_true_eq]; omega)]
  unfold joinK guardO
  dsimp only
  rw [at_nat hk, Option.bind_some, if_pos (by rw [hn]; decide), Option.bind_some]
  refine Eq.trans (l2 _) ?_
  rw [← stepAt_eq hk]
  refine Eq.trans (l3 _) ?_
  rw [hrow]
  refine Eq.trans (l4 _) ?_
  rw [wrapN k (by omega)]
  refine Eq.trans ?_ ih
  simp only [← colAt_succ]
theorem cells5_eq (s : Sequence) (R : RightS s) (hn : s.actuators = 5) : diagram_cells5 s = some (cellsS s) := by
 unfold diagram_cells5 joinK guardO
 dsimp only
 rw [if_pos (by rw [hn]; decide), Option.bind_some, fuel0]
 refine Eq.trans (cells5_loop1 s R hn _ s.steps.length 0 (by omega)) ?_
 rw [cellsS, hn]
 rfl
theorem cells6_loop4 (K : List Bool → List Cell → List Cell → List Cell → List Cell → List Cell → List Cell → Option (List (List Cell))) (l : List Bool) (x0 x1 x2 x3 x4 x5 : Cell) (a0 a1 a2 a3 a4 a5 : List Cell) (h0 : a0.length ≤ 1000) (h1 : a1.length ≤ 1000) (h2 : a2.length ≤ 1000) (h3 : a3.length ≤ 1000) (h4 : a4.length ≤ 1000) (h5 : a5.length ≤ 1000) :
 diagram_cells6_loop4 K [x0, x1, x2, x3, x4, x5] l (Int.toNat (6 - 0) + 1) 0 a0 a1 a2 a3 a4 a5 = K l (a0 ++ [x0]) (a1 ++ [x1]) (a2 ++ [x2]) (a3 ++ [x3]) (a4 ++ [x4]) (a5 ++ [x5]) := by
 have e0 : appO 2 a0 [x0] = some (a0 ++ [x0]) := appO_ok (by simp only [List.length_cons, List.length_nil]; omega) (by decide)
 have e1 : appO 2 a1 [x1] = some (a1 ++ [x1]) := appO_ok (by simp only [List.length_cons, List.length_nil]; omega) (by decide)
 have e2 : appO 2 a2 [x2] = some (a2 ++ [x2]) := appO_ok (by simp only [List.length_cons, List.length_nil]; omega) (by decide)
 have e3 : appO 2 a3 [x3] = some (a3 ++ [x3]) := appO_ok (by simp only [List.length_cons, List.length_nil]; omega) (by decide)
 have e4 : appO 2 a4 [x4] = some (a4 ++ [x4]) := appO_ok (by simp only [List.length_cons, List.length_nil]; omega) (by decide)
 have e5 : appO 2 a5 [x5] = some (a5 ++ [x5]) := appO_ok (by simp only [List.length_cons, List.length_nil]; omega) (by decide)
 show diagram_cells6_loop4 K [x0, x1, x2, x3, x4, x5] l 7 0 a0 a1 a2 a3 a4 a5 = _
 rw [diagram_cells6_loop4, if_pos (by decide), if_pos (by decide), show at? [x0, x1, x2, x3, x4, x5] 0 = some x0 from rfl, Option.bind_some, e0, Option.bind_some, show IntKind.wrap .i64 (0 + 1) = 1 by decide]
 rw [diagram_cells6_loop4, if_pos (by decide), if_neg (by decide), if_pos (by decide), show at? [x0, x1, x2, x3, x4, x5] 1 = some x1 from rfl, Option.bind_some, e1, Option.bind_some, show IntKind.wrap .i64 (1 + 1) = 2 by decide]
 rw [diagram_cells6_loop4, if_pos (by decide), if_neg (by decide), if_neg (by decide), if_pos (by decide), show at? [x0, x1, x2, x3, x4, x5] 2 = some x2 from rfl, Option.bind_some, e2, Option.bind_some, show IntKind.wrap .i64 (2 + 1) = 3 by decide]
 rw [diagram_cells6_loop4, if_pos (by decide), if_neg (by decide), if_neg (by decide), if_neg (by decide), if_pos (by decide), show at? [x0, x1, x2, x3, x4, x5] 3 = some x3 from rfl, Option.bind_some, e3, Option.bind_some, show IntKind.wrap .i64 (3 + 1) = 4 by decide]
 rw [diagram_cells6_loop4, if_pos (by decide), if_neg (by decide), if_neg (by decide), if_neg (by decide), if_neg (by decide), if_pos (by decide), show at? [x0, x1, x2, x3, x4, x5] 4 = some x4 from rfl, Option.bind_some, e4, Option.bind_some, show IntKind.wrap .i64 (4 + 1) = 5 by decide]
 rw [diagram_cells6_loop4, if_pos (by decide), if_neg (by decide), if_neg (by decide), if_neg (by decide), if_neg (by decide), if_neg (by decide), if_pos (by decide), show at? [x0, x1, x2, x3, x4, x5] 5 = some x5 from rfl, Option.bind_some, e5, Option.bind_some, show IntKind.wrap .i64 (5 + 1) = 6 by decide]
 rw [diagram_cells6_loop4, if_neg (by decide)]
theorem cells6_loop1 (s : Sequence) (R : RightS s) (hn : s.actuators = 6) (K : List Cell → List Cell → List Cell → List Cell → List Cell → List Cell → Option (List (List Cell))) : ∀ (m k : Nat), k + m = s.steps.length →
 diagram_cells6_loop1 s K (m + 1) (k : Int) (beh s k) (colAt s 0 k) (colAt s 1 k) (colAt s 2 k) (colAt s 3 k) (colAt s 4 k) (colAt s 5 k) = K (colAt s 0 s.steps.length) (colAt s 1 s.steps.length) (colAt s 2 s.steps.length) (colAt s 3 s.steps.length) (colAt s 4 s.steps.length) (colAt s 5 s.steps.length)
 | 0, k, h => by
  rw [diagram_cells6_loop1, if_neg (by rw [decide_eq_true_eq]; omega), show k = s.steps.length by omega]
 | m + 1, k, h => by
  have hk : k < s.steps.length := by omega
  have hl1 := R.l1
  have ih := cells6_loop1 s R hn K m (k + 1) (by omega)
  obtain ⟨hs, hg, hy⟩ := suits_next R hk
  have hf := hg.few
  have hb := beh_len s k
  have l2 : ∀ K, diagram_cells1_loop2 (beh s k) K (Int.toNat (((beh s k).length : Int) - 0) + 1) 0 (List.replicate (Int.toNat s.actuators) (Cell.mk 0 0)) = K ((beh s k).map rc) := fun K => by
   rw [fuel0, ← hb]
   exact cells1_loop2 (beh s k) K (by rw [hb, hn]; decide) (beh s k) [] rfl
  have l3 : ∀ K, diagram_cells1_loop3 (stepAt s k) K (Int.toNat (((stepAt s k).strokes.length : Int) - 0) + 1) 0 (beh s k) ((beh s k).map rc) = K (beh s (k + 1)) (rowAt s k) := fun K => by
   rw [fuel0]
   refine Eq.trans (cells1_loop3 (stepAt s k) K (by omega) (stepAt s k).strokes [] (beh s k) ((beh s k).map rc) rfl (fun y q => by rw [hb]; exact hy y q) (by rw [List.length_map])) ?_
   rw [← beh_next hk, rowAt]
  have hrow : rowAt s k = [cellAt s k 0, cellAt s k 1, cellAt s k 2, cellAt s k 3, cellAt s k 4, cellAt s k 5] := by
   have := rowAt_len s k
   rw [hn] at this
   match hr : rowAt s k, this with
   | [q0, q1, q2, q3, q4, q5], _ => simp [cellAt, hr]
  have l4 := fun K => cells6_loop4 K (beh s (k + 1)) (cellAt s k 0) (cellAt s k 1) (cellAt s k 2) (cellAt s k 3) (cellAt s k 4) (cellAt s k 5) (colAt s 0 k) (colAt s 1 k) (colAt s 2 k) (colAt s 3 k) (colAt s 4 k) (colAt s 5 k) (by rw [colAt_len]; omega) (by rw [colAt_len]; omega) (by rw [colAt_len]; omega) (by rw [colAt_len]; omega) (by rw [colAt_len]; omega) (by rw [colAt_len]; omega)
  rw [diagram_cells6_loop1, if_pos (by rw [decide_eq_true_eq]; omega)]
  unfold joinK guardO
  dsimp only
  rw [at_nat hk, Option.bind_some, if_pos (by rw [hn]; decide), Option.bind_some]
  refine Eq.trans (l2 _) ?_
  rw [← stepAt_eq hk]
  refine Eq.trans (l3 _) ?_
  rw [hrow]
  refine Eq.trans (l4 _) ?_
  rw [wrapN k (by omega)]
  refine Eq.trans ?_ ih
  simp only [← colAt_succ]
theorem cells6_eq (s : Sequence) (R : RightS s) (hn : s.actuators = 6) : diagram_cells6 s = some (cellsS s) := by
 unfold diagram_cells6 joinK guardO
 dsimp only
 rw [if_pos (by rw [hn]; decide), Option.bind_some, fuel0]
 refine Eq.trans (cells6_loop1 s R hn _ s.steps.length 0 (by omega)) ?_
 rw [cellsS, hn]
 rfl
theorem cells_eq (s : Sequence) (R : RightS s) : diagram_cells s = some (cellsS s) := by
 have n0 := R.n0
 have n1 := R.n1
 have : s.actuators = 1 ∨ s.actuators = 2 ∨ s.actuators = 3 ∨ s.actuators = 4 ∨ s.actuators = 5 ∨ s.actuators = 6 := by omega
 unfold diagram_cells
 rcases this with h | h | h | h | h | h
 · rw [if_pos (by rw [h]; decide), cells1_eq s R h]
 · rw [if_neg (by rw [h]; decide), if_pos (by rw [h]; decide), cells2_eq s R h]
 · rw [if_neg (by rw [h]; decide), if_neg (by rw [h]; decide), if_pos (by rw [h]; decide), cells3_eq s R h]
 · rw [if_neg (by rw [h]; decide), if_neg (by rw [h]; decide), if_neg (by rw [h]; decide), if_pos (by rw [h]; decide), cells4_eq s R h]
 · rw [if_neg (by rw [h]; decide), if_neg (by rw [h]; decide), if_neg (by rw [h]; decide), if_neg (by rw [h]; decide), if_pos (by rw [h]; decide), cells5_eq s R h]
 · rw [if_neg (by rw [h]; decide), if_neg (by rw [h]; decide), if_neg (by rw [h]; decide), if_neg (by rw [h]; decide), if_neg (by rw [h]; decide), if_pos (by rw [h]; decide), cells6_eq s R h]
end Go.Proofs.YtbckcjjffbgidaaGreatDoor.W
