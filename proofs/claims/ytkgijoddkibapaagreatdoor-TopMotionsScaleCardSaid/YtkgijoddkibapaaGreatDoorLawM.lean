import Derived.Test.YtkgijoddkibapaaGreatDoorLawJ
set_option linter.unusedVariables false
set_option linter.unusedSimpArgs false
set_option linter.unnecessarySimpa false
set_option maxHeartbeats 2000000
set_option linter.unusedSectionVars false
namespace Go.Proofs.YtkgijoddkibapaaGreatDoor.W
open Go Go.RowKit
def restI (b : Bool) : Int := if b = true then 45 else 95
def goI (b : Bool) : Int := if b = true then 47 else 92
def rc (b : Bool) : Cell := ⟨restI b, restI b⟩
def gc (b : Bool) : Cell := ⟨goI b, restI b⟩
def rowS (c : List Cell) : List Stroke → List Cell
 | [] => c
 | y :: r => rowS (c.set y.actuator.toNat (gc y.out)) r
theorem rowS_len : ∀ (r : List Stroke) (c : List Cell), (rowS c r).length = c.length
 | [], c => rfl
 | y :: r, c => by rw [rowS, rowS_len r, List.length_set]
theorem rowS_get : ∀ (r : List Stroke) (last : Int) (l : List Cell), Asc last r → ∀ i : Nat, i < l.length →
 (rowS l r)[i]? = if wayS (i : Int) r = 1 then some (gc true) else if wayS (i : Int) r = -1 then some (gc false) else l[i]?
 | [], last, l, _, i, _ => by simp [rowS, wayS]
 | y :: r, last, l, h, i, hi => by
  obtain ⟨h0, h1, h2, h3⟩ := h
  rw [rowS, rowS_get r y.actuator (l.set y.actuator.toNat (gc y.out)) h3 i (by rw [List.length_set]; exact hi), wayS]
  by_cases ha : y.actuator = (i : Int)
  · rw [if_pos ha, way_none h3 (by omega)]
    have e : y.actuator.toNat = i := by omega
    rw [if_neg (by decide), if_neg (by decide), e, List.getElem?_set_self hi]
    cases y.out <;> simp
  · rw [if_neg ha, List.getElem?_set_ne (by omega)]
theorem index_eq (b : Bool) : diagram_index b = some (if b = true then 1 else 0) := by cases b <;> rfl
theorem rest_at (b : Bool) : at? diag_rest (if b = true then 1 else 0) = some (restI b) := by cases b <;> rfl
theorem going_at (b : Bool) : at? diag_going (if b = true then 1 else 0) = some (goI b) := by cases b <;> rfl
theorem set_mid {α : Type} {pre r : List α} {x v : α} : (pre ++ x :: r).set pre.length v = pre ++ v :: r := by simp
def stepAt (s : Sequence) (k : Nat) : Step := s.steps[k]?.getD ⟨[], 0⟩
def rowAt (s : Sequence) (k : Nat) : List Cell := rowS ((beh s k).map rc) (stepAt s k).strokes
def cellAt (s : Sequence) (k i : Nat) : Cell := (rowAt s k)[i]?.getD ⟨0, 0⟩
def colAt (s : Sequence) (i k : Nat) : List Cell := (List.range k).map fun k => cellAt s k i
theorem colAt_succ (s : Sequence) (i k : Nat) : colAt s i (k + 1) = colAt s i k ++ [cellAt s k i] := by rw [colAt, List.range_succ, List.map_append]; rfl
theorem colAt_len (s : Sequence) (i k : Nat) : (colAt s i k).length = k := by simp [colAt]
theorem rowAt_len (s : Sequence) (k : Nat) : (rowAt s k).length = s.actuators.toNat := by rw [rowAt, rowS_len, List.length_map, beh_len]
def cellsS (s : Sequence) : List (List Cell) := (List.range s.actuators.toNat).map fun i => colAt s i s.steps.length
theorem at_nat {α : Type} {l : List α} {k : Nat} (h : k < l.length) : at? l (k : Int) = some l[k] := by
 unfold at?
 rw [if_pos (by omega), show ((k : Nat) : Int).toNat = k by omega, List.getElem?_eq_getElem h]
theorem stepAt_eq {s : Sequence} {k : Nat} (h : k < s.steps.length) : stepAt s k = s.steps[k] := by rw [stepAt, List.getElem?_eq_getElem h]; rfl
theorem beh_next {s : Sequence} {k : Nat} (h : k < s.steps.length) : beh s (k + 1) = setL (beh s k) (stepAt s k).strokes := by
 rw [beh, List.take_succ_eq_append_getElem h, behL_app, stepAt_eq h]
 rfl
theorem wrapN (k : Nat) (h : k ≤ 1000000) : IntKind.wrap .i64 ((k : Int) + 1) = ((k + 1 : Nat) : Int) := by rw [wrap64 (by omega) (by omega)]; omega
theorem suits_next {s : Sequence} (R : RightS s) {k : Nat} (h : k < s.steps.length) : suitsB (stepAt s k) (beh s k) = true ∧ GoodS (stepAt s k) ∧ ∀ y ∈ (stepAt s k).strokes, 0 ≤ y.actuator ∧ y.actuator.toNat < s.actuators.toNat := by
 have e : s.steps = s.steps.take k ++ s.steps[k] :: s.steps.drop (k + 1) := by rw [← List.drop_eq_getElem_cons h, List.take_append_drop]
 have hs := R.fit _ _ _ e
 have hg := R.good s.steps[k] (List.getElem_mem h)
 rw [stepAt_eq h]
 refine ⟨hs, hg.1, fun y hy => ?_⟩
 have := suits_all hg.1 hs y hy
 rw [behL_len, zeros_len] at this
 exact this

theorem cells1_loop2 (l1 : List Bool) (K : List Cell → Option (List (List Cell))) (hl : l1.length ≤ 1000) : ∀ (r pre : List Bool), l1 = pre ++ r →
 cells_loop2 l1 K (r.length + 1) (pre.length : Int) (pre.map rc ++ List.replicate r.length (Cell.mk 0 0)) = K (l1.map rc)
 | [], pre, e => by
  rw [cells_loop2, end_mid e, if_neg (by simp), e]
  simp
 | b :: r, pre, e => by
  obtain ⟨h1, h2, h3, h4, h5⟩ := step_mid e (by omega)
  have ih := cells1_loop2 l1 K hl r (pre ++ [b]) h4
  have hz : at? (pre.map rc ++ List.replicate (b :: r).length (Cell.mk 0 0)) (pre.length : Int) = some (Cell.mk 0 0) := by
   have := at?_mid (pre := pre.map rc) (x := Cell.mk 0 0) (r := List.replicate r.length (Cell.mk 0 0))
   rw [List.length_map] at this
   exact this
  have hs : (pre.map rc ++ List.replicate (b :: r).length (Cell.mk 0 0)).set (pre.length : Int).toNat (rc b) = (pre ++ [b]).map rc ++ List.replicate r.length (Cell.mk 0 0) := by
   have := set_mid (pre := pre.map rc) (x := Cell.mk 0 0) (v := rc b) (r := List.replicate r.length (Cell.mk 0 0))
   rw [List.length_map] at this
   rw [Int.toNat_natCast, List.map_append, List.append_assoc]
   exact this
  rw [List.length_cons] at hz hs
  rw [cells_loop2, h1, if_pos rfl, h2]
  simp only [Option.bind_some, index_eq, rest_at, List.length_cons, hz, h3]
  refine Eq.trans (congrArg (cells_loop2 l1 K _ _) hs) ih
theorem cells1_loop3 (x : Step) (K : List Bool → List Cell → Option (List (List Cell))) (hl : x.strokes.length ≤ 100) : ∀ (r pre : List Stroke) (l : List Bool) (c : List Cell), x.strokes = pre ++ r → (∀ y ∈ r, 0 ≤ y.actuator ∧ y.actuator.toNat < l.length) → c.length = l.length →
 cells_loop3 x K (r.length + 1) (pre.length : Int) l c = K (setL l r) (rowS c r)
 | [], pre, l, c, e, _, _ => by
  rw [cells_loop3, end_mid e, if_neg (by simp)]
  rfl
 | y :: r, pre, l, c, e, hy, hc => by
  obtain ⟨h1, h2, h3, h4, h5⟩ := step_mid e (by omega)
  obtain ⟨p0, p1⟩ := hy y (by simp)
  have ih := cells1_loop3 x K hl r (pre ++ [y]) (l.set y.actuator.toNat y.out) (c.set y.actuator.toNat (gc y.out)) h4 (fun z hz => by rw [List.length_set]; exact hy z (by simp [hz])) (by rw [List.length_set, List.length_set, hc])
  have e1 : at? l y.actuator = some l[y.actuator.toNat] := by unfold at?; rw [if_pos p0, List.getElem?_eq_getElem p1]
  have e2 : at? c y.actuator = some (c[y.actuator.toNat]'(by omega)) := by unfold at?; rw [if_pos p0, List.getElem?_eq_getElem (by omega)]
  rw [cells_loop3, h1, if_pos rfl, h2]
  simp only [Option.bind_some, e1, index_eq, going_at, rest_at, e2, List.length_cons, h3]
  exact ih
def cols (s : Sequence) (k : Nat) : List (List Cell) := (List.range s.actuators.toNat).map fun i => colAt s i k
theorem cellsG_loop4 (K : List Bool → List (List Cell) → Option (List (List Cell))) (l7 : List Bool) (c8 : List Cell) (hc : c8.length ≤ 1000) : ∀ (r : List (List Cell)) (rc : List Cell) (pre : List (List Cell)) (pc : List Cell), c8 = pc ++ rc → pre.length = pc.length → r.length = rc.length → (∀ l ∈ r, l.length ≤ 1000) →
 cells_loop4 K c8 l7 (r.length + 1) (pre.length : Int) (pre ++ r) = K l7 (pre ++ List.zipWith (fun l x => l ++ [x]) r rc)
 | [], [], pre, pc, e, hp, _, _ => by rw [cells_loop4, ge_end, if_neg (by simp)]; rfl
 | l :: r, x :: rc, pre, pc, e, hp, hr, hl => by
  have hcl : c8.length = pc.length + (rc.length + 1) := by rw [e]; simp
  have ih := cellsG_loop4 K l7 c8 hc r rc (pre ++ [l ++ [x]]) (pc ++ [x]) (by rw [e, mid_cons]) (by simp [hp]) (by simpa using hr) (fun z hz => hl z (List.mem_cons_of_mem _ hz))
  have h1 : at? c8 (pre.length : Int) = some x := by rw [e, hp]; exact at?_mid
  have hb := hl l (List.mem_cons_self ..)
  have hw : IntKind.wrap .i64 ((pre.length : Int) + 1) = ((pre ++ [l ++ [x]]).length : Int) := by
   rw [wrap64 (by omega) (by omega), List.length_append, List.length_singleton]
   omega
  rw [List.length_cons, cells_loop4, lt_mid, if_pos rfl, at?_mid, Option.bind_some, h1, Option.bind_some, appO_ok (by simp only [List.length_cons, List.length_nil]; omega) (by decide), Option.bind_some, Int.toNat_natCast, set_mid, hw]
  have e3 : pre ++ (l ++ [x]) :: r = (pre ++ [l ++ [x]]) ++ r := mid_cons
  rw [e3, ih]
  simp
 | [], _ :: _, _, _, _, _, h, _ => by simp at h
 | _ :: _, [], _, _, _, _, h, _ => by simp at h
theorem cols_next {s : Sequence} (k : Nat) : List.zipWith (fun l x => l ++ [x]) (cols s k) (rowAt s k) = cols s (k + 1) := by
 have hr := rowAt_len s k
 refine List.ext_getElem (by simp [cols, hr]) fun i h1 h2 => ?_
 have hi : i < s.actuators.toNat := by simpa [cols] using h2
 rw [List.getElem_zipWith]
 simp only [cols, List.getElem_map, List.getElem_range, colAt_succ]
 congr 2
 rw [cellAt, List.getElem?_eq_getElem (by omega)]
 rfl
theorem cellsG_loop1 (s : Sequence) (R : RightS s) (K : List (List Cell) → Option (List (List Cell))) : ∀ (m k : Nat), k + m = s.steps.length →
 cells_loop1 s K (m + 1) (k : Int) (beh s k) (cols s k) = K (cols s s.steps.length)
 | 0, k, h => by
  rw [cells_loop1, if_neg (by rw [decide_eq_true_eq]; omega), show k = s.steps.length by omega]
 | m + 1, k, h => by
  have hk : k < s.steps.length := by omega
  have hl1 := R.l1
  have n0 := R.n0
  have n1 := R.n1
  have ih := cellsG_loop1 s R K m (k + 1) (by omega)
  obtain ⟨hs, hg, hy⟩ := suits_next R hk
  have hf := hg.few
  have hb := beh_len s k
  have l2 : ∀ K, cells_loop2 (beh s k) K (Int.toNat (((beh s k).length : Int) - 0) + 1) 0 (List.replicate (Int.toNat s.actuators) (Cell.mk 0 0)) = K ((beh s k).map rc) := fun K => by
   rw [fuel0, ← hb]
   exact cells1_loop2 (beh s k) K (by rw [hb]; omega) (beh s k) [] rfl
  have l3 : ∀ K, cells_loop3 (stepAt s k) K (Int.toNat (((stepAt s k).strokes.length : Int) - 0) + 1) 0 (beh s k) ((beh s k).map rc) = K (beh s (k + 1)) (rowAt s k) := fun K => by
   rw [fuel0]
   refine Eq.trans (cells1_loop3 (stepAt s k) K (by omega) (stepAt s k).strokes [] (beh s k) ((beh s k).map rc) rfl (fun y q => by rw [hb]; exact hy y q) (by rw [List.length_map])) ?_
   rw [← beh_next hk, rowAt]
  have l4 : ∀ K, cells_loop4 K (rowAt s k) (beh s (k + 1)) (Int.toNat (((cols s k).length : Int) - 0) + 1) 0 (cols s k) = K (beh s (k + 1)) (cols s (k + 1)) := fun K => by
   have hr := rowAt_len s k
   rw [fuel0]
   refine Eq.trans (cellsG_loop4 K (beh s (k + 1)) (rowAt s k) (by omega) (cols s k) (rowAt s k) [] [] rfl rfl (by simp [cols, hr]) (fun l hl => ?_)) ?_
   · obtain ⟨i, _, rfl⟩ := List.mem_map.1 hl
     rw [colAt_len]
     omega
   · rw [List.nil_append, cols_next]
  rw [cells_loop1, if_pos (by rw [decide_eq_true_eq]; omega)]
  unfold joinK guardO
  dsimp only
  rw [at_nat hk, Option.bind_some, if_pos (by rw [Bool.and_eq_true, Bool.and_eq_true, decide_eq_true_eq, decide_eq_true_eq, decide_eq_true_eq]; omega), Option.bind_some]
  refine Eq.trans (l2 _) ?_
  rw [← stepAt_eq hk]
  refine Eq.trans (l3 _) ?_
  refine Eq.trans (l4 _) ?_
  rw [wrapN k (by omega)]
  exact ih
theorem cells_eq (s : Sequence) (R : RightS s) : cellsG s = some (cellsS s) := by
 have n0 := R.n0
 have n1 := R.n1
 unfold cellsG joinK guardO
 dsimp only
 rw [if_pos (by rw [Bool.and_eq_true, decide_eq_true_eq, decide_eq_true_eq]; omega), Option.bind_some, if_pos (by rw [Bool.and_eq_true, Bool.and_eq_true, decide_eq_true_eq, decide_eq_true_eq, decide_eq_true_eq]; omega), Option.bind_some, fuel0]
 have e : (List.replicate (Int.toNat s.actuators) ([] : List Cell)) = cols s 0 := by
  unfold cols
  exact List.ext_getElem (by simp) fun i h1 h2 => by simp [colAt]
 have := cellsG_loop1 s R (fun q13 => some q13) s.steps.length 0 (by omega)
 rw [e]
 exact this
def restB (b : Bool) : UInt8 := if b = true then 45 else 95
def begB (s : Sequence) (k i : Nat) : Bool := (beh s k)[i]?.getD false
def wayA (s : Sequence) (k i : Nat) : Int := wayS (i : Int) (stepAt s k).strokes
def fB (s : Sequence) (k i : Nat) : UInt8 := if wayA s k i = 1 then 47 else if wayA s k i = -1 then 92 else restB (begB s k i)
def sB (s : Sequence) (k i : Nat) : UInt8 := restB (begB s (k + 1) i)
theorem beg_get {s : Sequence} {k i : Nat} (h : i < s.actuators.toNat) : (beh s k)[i]? = some (begB s k i) := by
 have hl := beh_len s k
 rw [begB, List.getElem?_eq_getElem (by omega)]
 rfl
theorem beg_next {s : Sequence} (R : RightS s) {k i : Nat} (hk : k < s.steps.length) (h : i < s.actuators.toNat) :
 begB s (k + 1) i = if wayA s k i = 1 then true else if wayA s k i = -1 then false else begB s k i := by
 obtain ⟨_, hg, _⟩ := suits_next R hk
 have := setL_get (stepAt s k).strokes (-1) (beh s k) hg.asc i (by rw [beh_len]; exact h)
 rw [← beh_next hk, beg_get h, beg_get h] at this
 unfold wayA
 split at this
 · rename_i q; rw [if_pos q]; exact Option.some.inj this
 · rename_i q; rw [if_neg q]
   split at this
   · rename_i q2; rw [if_pos q2]; exact Option.some.inj this
   · rename_i q2; rw [if_neg q2]; exact Option.some.inj this
theorem cell_eq {s : Sequence} (R : RightS s) {k i : Nat} (hk : k < s.steps.length) (h : i < s.actuators.toNat) : cellAt s k i = ⟨((fB s k i).toNat : Int), ((sB s k i).toNat : Int)⟩ := by
 obtain ⟨_, hg, _⟩ := suits_next R hk
 have := rowS_get (stepAt s k).strokes (-1) ((beh s k).map rc) hg.asc i (by rw [List.length_map, beh_len]; exact h)
 rw [cellAt, rowAt, this, sB, beg_next R hk h, fB, List.getElem?_map, beg_get h]
 show Option.getD (if wayA s k i = 1 then some (gc true) else if wayA s k i = -1 then some (gc false) else some (rc (begB s k i))) _ = _
 by_cases q1 : wayA s k i = 1
 · rw [if_pos q1, if_pos q1, if_pos q1]; rfl
 · rw [if_neg q1, if_neg q1, if_neg q1]
   by_cases q2 : wayA s k i = -1
   · rw [if_pos q2, if_pos q2, if_pos q2]; rfl
   · rw [if_neg q2, if_neg q2, if_neg q2]
     cases begB s k i <;> rfl
theorem col_at {s : Sequence} (R : RightS s) {k i : Nat} (hk : k < s.steps.length) (h : i < s.actuators.toNat) : at? (colAt s i s.steps.length) (k : Int) = some ⟨((fB s k i).toNat : Int), ((sB s k i).toNat : Int)⟩ := by
 rw [at_nat (by rw [colAt_len]; exact hk)]
 simp [colAt, cell_eq R hk h]
theorem cells_at {s : Sequence} {i : Nat} (h : i < s.actuators.toNat) : at? (cellsS s) (i : Int) = some (colAt s i s.steps.length) := by
 rw [at_nat (by rw [cellsS]; simpa using h)]
 simp [cellsS]
theorem cellsS_len (s : Sequence) : (cellsS s).length = s.actuators.toNat := by simp [cellsS]
theorem byte_back (b : UInt8) : (decide (0 ≤ ((b.toNat : Nat) : Int)) && decide (((b.toNat : Nat) : Int) ≤ 255)) = true ∧ UInt8.ofNat (Int.toNat ((b.toNat : Nat) : Int)) = b := by
 have := b.toNat_lt
 constructor
 · simp; omega
 · simp
theorem letter_eq {i : Nat} (h : i < 6) : diagram_letter (i : Int) = some [UInt8.ofNat (65 + i)] := by
 have := enc_at ⟨i, h⟩
 unfold diagram_letter
 dsimp only at this
 rw [this]
def blk (s : Sequence) (i : Nat) (w : Nat → Nat) (mk : Nat → Bool) (k : Nat) : List UInt8 := (if mk k = true then [124] else []) ++ List.replicate (w k) (fB s k i) ++ [sB s k i]
def lineW (s : Sequence) (i : Nat) (w : Nat → Nat) (mk : Nat → Bool) (k : Nat) : List UInt8 := [UInt8.ofNat (65 + i), 32, 95] ++ (List.range k).flatMap (blk s i w mk)
def linesW (s : Sequence) (w : Nat → Nat) (mk : Nat → Bool) (n : Nat) : List (List UInt8) := (List.range n).map fun i => lineW s i w mk s.steps.length
theorem lineW_succ (s : Sequence) (i : Nat) (w : Nat → Nat) (mk : Nat → Bool) (k : Nat) : lineW s i w mk (k + 1) = lineW s i w mk k ++ blk s i w mk k := by
 simp [lineW, List.range_succ, List.flatMap_append]
theorem linesW_succ (s : Sequence) (w : Nat → Nat) (mk : Nat → Bool) (n : Nat) : linesW s w mk (n + 1) = linesW s w mk n ++ [lineW s n w mk s.steps.length] := by simp [linesW, List.range_succ]
theorem linesW_len (s : Sequence) (w : Nat → Nat) (mk : Nat → Bool) (n : Nat) : (linesW s w mk n).length = n := by simp [linesW]
def sumW (w : Nat → Nat) : Nat → Nat
 | 0 => 0
 | k + 1 => sumW w k + w k
theorem blk_len (s : Sequence) (i : Nat) (w : Nat → Nat) (mk : Nat → Bool) (k : Nat) : (blk s i w mk k).length ≤ w k + 2 := by
 unfold blk
 split <;> simp
theorem line_len16 (s : Sequence) (i : Nat) (w : Nat → Nat) (mk : Nat → Bool) : ∀ k, (lineW s i w mk k).length ≤ 3 + 2 * k + sumW w k
 | 0 => by simp [lineW, sumW]
 | k + 1 => by
  have h1 := blk_len s i w mk k
  have h2 := line_len16 s i w mk k
  rw [lineW_succ, List.length_append, sumW]
  omega
theorem sum_mono (w : Nat → Nat) {a b : Nat} (h : a ≤ b) : sumW w a ≤ sumW w b := by
 induction b with
 | zero => rw [show a = 0 by omega]; omega
 | succ b ih =>
  by_cases e : a = b + 1
  · rw [e]; omega
  · have := ih (by omega); rw [sumW]; omega
theorem fB_enc (s : Sequence) (k i : Nat) : (Utf8.encode (IntKind.wrap .i32 ((fB s k i).toNat : Int))).data.toList = [fB s k i] := by
 unfold fB restB
 split
 · decide +kernel
 · split
   · decide +kernel
   · split <;> decide +kernel
theorem rep_one (b : UInt8) (n : Nat) : Lib.repeatL [b] n = List.replicate n b := by
 induction n with
 | zero => rfl
 | succ n ih => rw [List.replicate_succ, ← ih]; rfl
theorem lst2 (s : Sequence) (R : RightS s) (cs : List Int) (w : Nat → Nat) (hw : ∀ k < s.steps.length, at? cs (k : Int) = some (w k : Int)) (hS : sumW w s.steps.length ≤ 100000) (i : Nat) (hi : i < s.actuators.toNat) (K : List UInt8 → Option (List (List UInt8))) : ∀ (m k : Nat), k + m = s.steps.length →
 diagram_stretched_loop2 cs (colAt s i s.steps.length) K (m + 1) (k : Int) (lineW s i w (fun _ => false) k) = K (lineW s i w (fun _ => false) s.steps.length)
 | 0, k, h => by
  rw [diagram_stretched_loop2, if_neg (by rw [decide_eq_true_eq, colAt_len]; omega), show k = s.steps.length by omega]
 | m + 1, k, h => by
  have hk : k < s.steps.length := by omega
  have hl1 := R.l1
  have ih := lst2 s R cs w hw hS i hi K m (k + 1) (by omega)
  have hlen := line_len16 s i w (fun _ => false) k
  have hsm2 := sum_mono w (show k + 1 ≤ s.steps.length by omega)
  rw [sumW] at hsm2
  have hrep : repS [fB s k i] (w k : Int) = some (List.replicate (w k) (fB s k i)) := by
   unfold repS
   rw [if_pos ⟨by omega, by omega, by simp; omega⟩, Int.toNat_natCast, rep_one]
  obtain ⟨g2, b2⟩ := byte_back (sB s k i)
  rw [diagram_stretched_loop2, if_pos (by rw [decide_eq_true_eq, colAt_len]; omega), col_at R hk hi, Option.bind_some, hw k hk, Option.bind_some]
  unfold guardO
  dsimp only
  rw [fB_enc, hrep, Option.bind_some, appO_ok (by simp; omega) (by decide), Option.bind_some, if_pos g2, Option.bind_some, b2, appO_ok (by simp; omega) (by decide), Option.bind_some, wrapN k (by omega), ← ih, lineW_succ]
  congr 1
  simp [blk]
theorem lst1 (s : Sequence) (R : RightS s) (cs : List Int) (w : Nat → Nat) (hw : ∀ k < s.steps.length, at? cs (k : Int) = some (w k : Int)) (hS : sumW w s.steps.length ≤ 100000) (K : List (List UInt8) → Option (List (List UInt8))) : ∀ (m i : Nat), i + m = s.actuators.toNat →
 diagram_stretched_loop1 K (cellsS s) cs (m + 1) (i : Int) (linesW s w (fun _ => false) i) = K (linesW s w (fun _ => false) s.actuators.toNat)
 | 0, i, h => by
  rw [diagram_stretched_loop1, if_neg (by rw [decide_eq_true_eq, cellsS_len]; omega), show i = s.actuators.toNat by omega]
 | m + 1, i, h => by
  have hi : i < s.actuators.toNat := by omega
  have n1 := R.n1
  have ih := lst1 s R cs w hw hS K m (i + 1) (by omega)
  rw [diagram_stretched_loop1, if_pos (by rw [decide_eq_true_eq, cellsS_len]; omega)]
  unfold joinK
  dsimp only
  rw [cells_at hi, Option.bind_some, letter_eq (by omega), Option.bind_some, catO_small (by simp), Option.bind_some, appO_ok (by simp) (by decide), Option.bind_some, fuel0, colAt_len]
  refine Eq.trans (lst2 s R cs w hw hS i hi _ s.steps.length 0 (by omega)) ?_
  rw [appO_ok (by simp [linesW_len]; omega) (by decide), Option.bind_some, wrapN i (by omega), ← ih, linesW_succ]
theorem lst_eq (s : Sequence) (R : RightS s) (cs : List Int) (w : Nat → Nat) (hw : ∀ k < s.steps.length, at? cs (k : Int) = some (w k : Int)) (hS : sumW w s.steps.length ≤ 100000) : diagram_stretched s cs = some (linesW s w (fun _ => false) s.actuators.toNat) := by
 unfold diagram_stretched joinK
 dsimp only
 rw [cells_eq s R, Option.bind_some, fuel0, cellsS_len]
 exact lst1 s R cs w hw hS _ s.actuators.toNat 0 (by omega)
def wdI (unit t : Int) : Int := if Int.tdiv (t + unit - 1) unit > 1 then Int.tdiv (t + unit - 1) unit else 1
def badT (t : Int) : Bool := (decide (t < 0)) || (decide (t > 1000000))
theorem wd_q {unit t : Int} (h0 : 0 ≤ t) (h1 : t ≤ 1000000) (u0 : 1 ≤ unit) (u1 : unit ≤ 1000000) : IntKind.wrap .i64 (Int.tdiv (IntKind.wrap .i64 ((IntKind.wrap .i64 (t + unit)) - 1)) unit) = Int.tdiv (t + unit - 1) unit ∧ 0 ≤ Int.tdiv (t + unit - 1) unit ∧ Int.tdiv (t + unit - 1) unit ≤ 2000000 := by
 have e : Int.tdiv (t + unit - 1) unit = (t + unit - 1) / unit := Int.tdiv_eq_ediv_of_nonneg (by omega)
 have hq0 : 0 ≤ (t + unit - 1) / unit := Int.ediv_nonneg (by omega) (by omega)
 have hq1 : (t + unit - 1) / unit ≤ t + unit - 1 := Int.ediv_le_self _ (by omega)
 rw [wrap64 (x := t + unit) (by omega) (by omega), wrap64 (x := t + unit - 1) (by omega) (by omega), e, wrap64 (by omega) (by omega)]
 exact ⟨rfl, hq0, by omega⟩
theorem wd_pos {unit t : Int} (h0 : 0 ≤ t) (h1 : t ≤ 1000000) (u0 : 1 ≤ unit) (u1 : unit ≤ 1000000) : 1 ≤ wdI unit t ∧ wdI unit t ≤ 2000000 := by
 obtain ⟨_, a, b⟩ := wd_q h0 h1 u0 u1
 unfold wdI
 split <;> omega
def wsum (l : List Int) : Int := (l.map fun x => x + 1).sum
theorem wsum_snoc (l : List Int) (x : Int) : wsum (l ++ [x]) = wsum l + (x + 1) := by simp [wsum]
theorem wsum_app (a b : List Int) : wsum (a ++ b) = wsum a + wsum b := by simp [wsum]
theorem wsum_le : ∀ l : List Int, (∀ x ∈ l, 1 ≤ x ∧ x ≤ 2000000) → 0 ≤ wsum l ∧ wsum l ≤ 3000000 * l.length
 | [], _ => by simp [wsum]
 | x :: l, h => by
  have h1 := wsum_le l (fun y hy => h y (by simp [hy]))
  have h2 := h x (by simp)
  have : wsum (x :: l) = (x + 1) + wsum l := by simp [wsum]
  rw [this, List.length_cons]
  omega
theorem lsc1 (times : List Int) (hl : times.length ≤ 100000) (K : Bool → Option (List (List UInt8) × Int)) (K2 : Option (List (List UInt8) × Int)) (unit : Int) : ∀ (r pre : List Int), times = pre ++ r →
 diagram_Scale_loop1 times K K2 unit (r.length + 1) (pre.length : Int) = if r.any badT = true then K true else K2
 | [], pre, e => by
  rw [diagram_Scale_loop1, end_mid e, if_neg (by simp), if_neg (by simp)]
 | y :: r, pre, e => by
  obtain ⟨h1, h2, h3, h4, h5⟩ := step_mid e (by omega)
  have ih := lsc1 times hl K K2 unit r (pre ++ [y]) h4
  rw [diagram_Scale_loop1, h1, if_pos rfl, h2, Option.bind_some, h3, List.length_cons, ih, List.any_cons]
  show (if badT y = true then _ else _) = _
  cases badT y
  · rfl
  · rw [if_pos rfl, decide_eq_true (by omega : (pre.length : Int) ≥ 0)]
    rfl
theorem lsc2 (times : List Int) (hl : times.length ≤ 100000) (unit : Int) (u0 : 1 ≤ unit) (u1 : unit ≤ 1000000) (ht : ∀ x ∈ times, 0 ≤ x ∧ x ≤ 1000000) (K : Int → List Int → Option (List (List UInt8) × Int)) : ∀ (r pre : List Int), times = pre ++ r →
 diagram_Scale_loop2 times unit K (r.length + 1) (3 + wsum (pre.map (wdI unit))) (pre.length : Int) (pre.map (wdI unit)) = K (3 + wsum (times.map (wdI unit))) (times.map (wdI unit))
 | [], pre, e => by
  rw [diagram_Scale_loop2, end_mid e, if_neg (by simp), e, List.append_nil]
 | y :: r, pre, e => by
  obtain ⟨h1, h2, h3, h4, h5⟩ := step_mid e (by omega)
  have ih := lsc2 times hl unit u0 u1 ht K r (pre ++ [y]) h4
  obtain ⟨y0, y1⟩ := ht y (by rw [e]; simp)
  obtain ⟨q0, q1, q2⟩ := wd_q y0 y1 u0 u1
  obtain ⟨p0, p1⟩ := wd_pos y0 y1 u0 u1
  obtain ⟨z0, z1⟩ := wsum_le (pre.map (wdI unit)) (fun x hx => by
   obtain ⟨t, h1, rfl⟩ := List.mem_map.1 hx
   obtain ⟨t0, t1⟩ := ht t (by rw [e]; simp [h1])
   exact wd_pos t0 t1 u0 u1)
  rw [List.length_map] at z1
  rw [diagram_Scale_loop2, h1, if_pos rfl, h2, Option.bind_some, q0, h3, List.length_cons, ← ih]
  unfold guardO
  rw [if_pos (by simp; omega), Option.bind_some]
  show (appO 8 _ [wdI unit y]).bind _ = _
  rw [appO_ok (by simp; omega) (by decide), Option.bind_some]
  show diagram_Scale_loop2 times unit K (r.length + 1) (IntKind.wrap .i64 (3 + wsum (pre.map (wdI unit)) + IntKind.wrap .i64 (wdI unit y + 1))) _ (pre.map (wdI unit) ++ [wdI unit y]) = _
  rw [wrap64 (x := wdI unit y + 1) (by omega) (by omega), wrap64 (by omega) (by omega), List.map_append]
  show _ = diagram_Scale_loop2 times unit K (r.length + 1) (3 + wsum (pre.map (wdI unit) ++ [wdI unit y])) _ (pre.map (wdI unit) ++ [wdI unit y])
  rw [wsum_snoc, Int.add_assoc]
def wAt (ws : List Int) (k : Nat) : Nat := (ws[k]?.getD 0).toNat
theorem wAt_at {ws : List Int} (hw : ∀ x ∈ ws, 0 ≤ x) {k : Nat} (h : k < ws.length) : at? ws (k : Int) = some (wAt ws k : Int) := by
 have := hw ws[k] (List.getElem_mem h)
 rw [at_nat h, wAt, List.getElem?_eq_getElem h]
 simp
 omega
theorem sum_wAt : ∀ (ws : List Int), (∀ x ∈ ws, 1 ≤ x) → ∀ k ≤ ws.length, (sumW (wAt ws) k : Int) + k ≤ wsum ws
 | ws, hw, 0, _ => by
  simp only [sumW]
  have : ∀ l : List Int, (∀ x ∈ l, 1 ≤ x) → 0 ≤ wsum l := fun l => by
   induction l with
   | nil => simp [wsum]
   | cons x l ih =>
    intro h
    have h1 := ih (fun y hy => h y (by simp [hy]))
    have h2 := h x (by simp)
    have : wsum (x :: l) = (x + 1) + wsum l := by simp [wsum]
    omega
  have := this ws hw
  omega
 | ws, hw, k + 1, hk => by
  have e : ws = ws.take k ++ ws[k] :: ws.drop (k + 1) := by rw [← List.drop_eq_getElem_cons (by omega), List.take_append_drop]
  have hlt : k < ws.length := by omega
  have h1 := hw ws[k] (List.getElem_mem hlt)
  have key : ∀ (k : Nat), k ≤ ws.length → (sumW (wAt ws) k : Int) + k = wsum (ws.take k) := fun k => by
   induction k with
   | zero => intro _; simp [sumW, wsum]
   | succ k ih =>
    intro hk
    have hlt : k < ws.length := by omega
    have h1 := hw ws[k] (List.getElem_mem hlt)
    have h2 := ih (by omega)
    rw [List.take_succ_eq_append_getElem hlt, wsum_snoc, sumW, ← h2, wAt, List.getElem?_eq_getElem hlt]
    simp
    omega
  have h3 := key (k + 1) hk
  have h4 : wsum ws = wsum (ws.take (k + 1)) + wsum (ws.drop (k + 1)) := by
   have := wsum_app (ws.take (k + 1)) (ws.drop (k + 1))
   rw [List.take_append_drop] at this
   exact this
  have h5 : ∀ l : List Int, (∀ x ∈ l, 1 ≤ x) → 0 ≤ wsum l := fun l => by
   induction l with
   | nil => simp [wsum]
   | cons x l ih =>
    intro h
    have h1 := ih (fun y hy => h y (by simp [hy]))
    have h2 := h x (by simp)
    have : wsum (x :: l) = (x + 1) + wsum l := by simp [wsum]
    omega
  have h6 := h5 (ws.drop (k + 1)) (fun x hx => hw x (List.mem_of_mem_drop hx))
  omega
def badU (times : List Int) (unit : Int) : Bool := times.any badT || ((decide (unit < 1)) || (decide (unit > 1000000)))
def scaleR (s : Sequence) (times : List Int) (unit : Int) : List (List UInt8) × Int :=
 if checkE s ≠ 0 then ([], checkE s) else if times.length ≠ s.steps.length then ([], 8) else if badU times unit = true then ([], 2)
 else if 3 + wsum (times.map (wdI unit)) > 4096 then ([], 17) else (linesW s (wAt (times.map (wdI unit))) (fun _ => false) s.actuators.toNat, 0)
theorem bad_no {times : List Int} {unit : Int} (h : badU times unit = false) : (∀ x ∈ times, 0 ≤ x ∧ x ≤ 1000000) ∧ 1 ≤ unit ∧ unit ≤ 1000000 := by
 unfold badU at h
 simp only [Bool.or_eq_false_iff, decide_eq_false_iff_not, List.any_eq_false, badT, Bool.or_eq_true, decide_eq_true_eq] at h
 refine ⟨fun x hx => ?_, by omega, by omega⟩
 have := h.1 x hx
 omega
theorem wds_ok {times : List Int} {unit : Int} (ht : ∀ x ∈ times, 0 ≤ x ∧ x ≤ 1000000) (u0 : 1 ≤ unit) (u1 : unit ≤ 1000000) : ∀ x ∈ times.map (wdI unit), 1 ≤ x ∧ x ≤ 2000000 := fun x hx => by
 obtain ⟨t, h1, rfl⟩ := List.mem_map.1 hx
 exact wd_pos (ht t h1).1 (ht t h1).2 u0 u1
theorem lscale_eq (s : Sequence) (times : List Int) (unit : Int) : diagram_Scale s times unit = some (scaleR s times unit) := by
 unfold diagram_Scale scaleR
 rw [lcheck14, Option.bind_some]
 by_cases h : checkE s = 0
 · have R := checkE_zero h
   have hl1 := R.l1
   rw [if_neg (by simpa using h), if_neg (fun q : checkE s ≠ 0 => q h)]
   by_cases hl : times.length = s.steps.length
   · rw [if_neg (by simp; omega), if_neg (fun q : times.length ≠ s.steps.length => q hl)]
     unfold joinK
     dsimp only
     rw [fuel0]
     refine Eq.trans (lsc1 times (by omega) _ _ unit times [] rfl) ?_
     have e0 : ((decide (((-1) : Int) ≥ 0) || decide (unit < 1)) || decide (unit > 1000000)) = (decide (unit < 1) || decide (unit > 1000000)) := by
      rw [decide_eq_false (by decide : ¬ ((-1) : Int) ≥ 0)]; rfl
     cases hb : badU times unit
     · obtain ⟨ht, u0, u1⟩ := bad_no hb
       have h1 : times.any badT = false := by unfold badU at hb; exact (Bool.or_eq_false_iff.1 hb).1
       have h2 : (decide (unit < 1) || decide (unit > 1000000)) = false := by unfold badU at hb; exact (Bool.or_eq_false_iff.1 hb).2
       rw [if_neg (by rw [h1]; decide), e0, h2, if_neg (by decide), if_neg (by decide)]
       have hq := wds_ok ht u0 u1
       refine Eq.trans (lsc2 times (by omega) unit u0 u1 ht _ times [] rfl) ?_
       by_cases hs : 3 + wsum (times.map (wdI unit)) > 4096
       · rw [if_pos (by simpa using hs), if_pos hs]
       · have hsw := sum_wAt (times.map (wdI unit)) (fun x hx => (hq x hx).1) s.steps.length (by rw [List.length_map]; omega)
         rw [if_neg (by simpa using hs), if_neg hs, lst_eq s R _ (wAt (times.map (wdI unit))) (fun k hk => wAt_at (fun x hx => by have := (hq x hx).1; omega) (by rw [List.length_map]; omega)) (by omega), Option.bind_some]
     · by_cases h1 : times.any badT = true
       · rw [if_pos h1, if_pos rfl, if_pos rfl]
       · have h2 : (decide (unit < 1) || decide (unit > 1000000)) = true := by
          unfold badU at hb
          rcases Bool.or_eq_true_iff.1 hb with q | q
          · exact absurd q h1
          · exact q
         rw [if_neg h1, e0, h2, if_pos rfl, if_pos rfl]
   · rw [if_pos (by simp; omega), if_pos hl]
 · rw [if_pos (by simpa using h), if_pos h]
def joinT : List (List UInt8) → List UInt8
 | [] => []
 | a :: r => if r = [] then a else a ++ 32 :: joinT r
def fieldsGo (last : List UInt8) (acc : List (List UInt8)) : List UInt8 → List (List UInt8)
 | [] => if last = [] then acc else acc ++ [last]
 | b :: r => if b = 32 then fieldsGo [] (if last = [] then acc else acc ++ [last]) r else fieldsGo (last ++ [b]) acc r
theorem fields_len : ∀ (r last : List UInt8) (acc : List (List UInt8)) (n : Nat), (∀ t ∈ acc, t.length ≤ n) → last.length + r.length ≤ n → ∀ t ∈ fieldsGo last acc r, t.length ≤ n
 | [], last, acc, n, h, hl, t, ht => by
  rw [fieldsGo] at ht
  split at ht
  · exact h t ht
  · rcases List.mem_append.1 ht with ht | ht
    · exact h t ht
    · rw [List.mem_singleton.1 ht]; simp at hl; omega
 | b :: r, last, acc, n, h, hl, t, ht => by
  rw [List.length_cons] at hl
  rw [fieldsGo] at ht
  split at ht
  · refine fields_len r [] _ n (fun u hu => ?_) (by simp; omega) t ht
    split at hu
    · exact h u hu
    · rcases List.mem_append.1 hu with hu | hu
      · exact h u hu
      · rw [List.mem_singleton.1 hu]; omega
  · exact fields_len r (last ++ [b]) acc n h (by simp; omega) t ht
theorem fields_run (acc : List (List UInt8)) (r : List UInt8) : ∀ (a last : List UInt8), (32 : UInt8) ∉ a → fieldsGo last acc (a ++ r) = fieldsGo (last ++ a) acc r
 | [], last, _ => by simp
 | b :: a, last, h => by
  have hb : b ≠ 32 := fun q => h (by rw [q]; simp)
  have ha : (32 : UInt8) ∉ a := fun q => h (by simp [q])
  rw [List.cons_append, fieldsGo, if_neg hb, fields_run acc r a (last ++ [b]) ha]
  simp
theorem fields_join : ∀ (l acc : List (List UInt8)), (∀ t ∈ l, (32 : UInt8) ∉ t ∧ t ≠ []) → fieldsGo [] acc (joinT l) = acc ++ l
 | [], acc, _ => by simp [joinT, fieldsGo]
 | [a], acc, h => by
  obtain ⟨h1, h2⟩ := h a (by simp)
  have := fields_run acc [] a [] h1
  rw [joinT, if_pos rfl]
  rw [List.append_nil] at this
  rw [this, List.nil_append, fieldsGo, if_neg h2]
 | a :: b :: r, acc, h => by
  obtain ⟨h1, h2⟩ := h a (by simp)
  rw [joinT, if_neg (by simp), fields_run acc _ a [] h1, List.nil_append, fieldsGo, if_pos rfl, if_neg h2, fields_join (b :: r) (acc ++ [a]) (fun t ht => h t (by simp at ht ⊢; exact .inr ht))]
  simp
theorem eqTl_loop (a b : List (List UInt8)) (hl : a.length = b.length) (hb : a.length ≤ 100000) : ∀ (r q pre pre2 : List (List UInt8)), a = pre ++ r → b = pre2 ++ q → pre.length = pre2.length → slices_Equal_stringstring_loop1 a b (some true) (r.length + 1) (pre.length : Int) = some (decide (r = q))
 | [], q, pre, pre2, e, e2, hp => by
  have : q = [] := by
   have h1 : a.length = pre.length := by rw [e]; simp
   have h2 : b.length = pre2.length + q.length := by rw [e2]; simp
   exact List.length_eq_zero_iff.1 (by omega)
  subst this
  rw [slices_Equal_stringstring_loop1, end_mid e, if_neg (by simp)]
  rfl
 | x :: r, q, pre, pre2, e, e2, hp => by
  obtain ⟨h1, h2, h3, h4, h5⟩ := step_mid e (by omega)
  cases q with
  | nil =>
   have h6 : b.length = pre2.length := by rw [e2]; simp
   omega
  | cons y q =>
   have hy : at? b (pre.length : Int) = some y := by rw [hp, e2]; exact at?_mid
   have ih1 := eqTl_loop a b hl hb r q (pre ++ [x]) (pre2 ++ [y]) h4 (by rw [e2]; simp) (by simp [hp])
   rw [slices_Equal_stringstring_loop1, h1, if_pos rfl, h2, Option.bind_some, hy, Option.bind_some, h3, List.length_cons, ih1]
   by_cases hxy : x = y
   · subst hxy
     rw [if_neg (by simp)]
     simp
   · rw [if_pos (by simpa using hxy)]
     simp [hxy]
theorem eqTl (a b : List (List UInt8)) (hb : a.length ≤ 100000) : slices_Equal_stringstring a b = some (decide (a = b)) := by
 unfold slices_Equal_stringstring joinK
 dsimp only
 by_cases hl : a.length = b.length
 · rw [if_neg (by simp; omega), fuel0]
   exact eqTl_loop a b hl hb a b [] [] rfl rfl rfl
 · have : ¬ a = b := fun q => hl (by rw [q])
   rw [if_pos (by simp; omega), decide_eq_false this]
def mv1 (i : Nat) (b : UInt8) : List Stroke := if b = 47 then [⟨i, true⟩] else if b = 92 then [⟨i, false⟩] else []
def mvs (a : Nat) : Nat → List (List UInt8) → List Stroke
 | _, [] => []
 | i, x :: r => (match x[a]? with | none => [] | some b => mv1 i b) ++ mvs a (i + 1) r
theorem going_all : ((List.range 256).all fun n => slices_Index_bytebyte diag_going (n : Int) == some (if n = 92 then 0 else if n = 47 then 1 else -1)) = true := by kernel_rfl
theorem going_eq (b : UInt8) : slices_Index_bytebyte diag_going (b.toNat : Int) = some (if b = 92 then 0 else if b = 47 then 1 else -1) := by
 have h := List.all_eq_true.1 going_all b.toNat (List.mem_range.2 b.toNat_lt)
 rw [beq_iff_eq] at h
 rw [h]
 have e1 : (b.toNat = 92) = (b = 92) := by rw [← UInt8.toNat_inj]; rfl
 have e2 : (b.toNat = 47) = (b = 47) := by rw [← UInt8.toNat_inj]; rfl
 simp only [e1, e2]
theorem byteAt_nat {x : List UInt8} {a : Nat} (h : a < x.length) : byteAt x (a : Int) = some x[a] := by
 unfold byteAt
 rw [if_pos (by omega)]
 simp [h]
theorem lmv_un (l2 : List (List UInt8)) (a : Nat) (hl : l2.length ≤ 1000) (K : List Stroke → Option (Sequence × List Int × Int)) : ∀ (r pre : List (List UInt8)) (acc : List Stroke), l2 = pre ++ r → acc.length ≤ pre.length →
 diagram_Unscale_loop2 l2 a K (r.length + 1) (pre.length : Int) acc = K (acc ++ mvs a pre.length r)
 | [], pre, acc, e, hc => by
  rw [diagram_Unscale_loop2, end_mid e, if_neg (by simp), mvs, List.append_nil]
 | y :: r, pre, acc, e, hc => by
  obtain ⟨h1, h2, h3, h4, h5⟩ := step_mid e (by omega)
  have ih := fun acc2 => lmv_un l2 a hl K r (pre ++ [y]) acc2 h4
  rw [show (pre ++ [y]).length = pre.length + 1 by simp] at ih
  rw [diagram_Unscale_loop2, h1, if_pos rfl]
  unfold joinK
  dsimp only
  rw [h2, Option.bind_some, wrapN pre.length (by omega), List.length_cons, mvs]
  by_cases ha : a < y.length
  · rw [if_neg (by simp; omega), byteAt_nat ha, Option.bind_some, going_eq, Option.bind_some, List.getElem?_eq_getElem ha]
    dsimp only
    unfold mv1
    by_cases h92 : y[a] = 92
    · rw [h92, if_pos rfl, if_pos (by decide), appO_ok (by simp; omega) (by decide), Option.bind_some, ih _ (by simp; omega), if_neg (by decide), if_pos rfl, List.append_assoc]
      rfl
    · rw [if_neg h92]
      by_cases h47 : y[a] = 47
      · rw [h47, if_pos rfl, if_pos (by decide), appO_ok (by simp; omega) (by decide), Option.bind_some, ih _ (by simp; omega), if_pos rfl, List.append_assoc]
        rfl
      · rw [if_neg h47, if_neg (by decide), ih _ (by omega), if_neg h47, if_neg h92, List.nil_append]
  · rw [if_pos (by simp; omega), ih _ (by omega), List.getElem?_eq_none (by omega)]
    rfl
theorem mvs_way : ∀ (m lo : Nat) (r : List Stroke) (last : Int), Asc last r → last < (lo : Int) → (∀ y ∈ r, (lo : Int) ≤ y.actuator ∧ y.actuator < ((lo + m : Nat) : Int)) →
 ((List.range' lo m).flatMap fun (i : Nat) => if wayS (i : Int) r = 1 then [(⟨i, true⟩ : Stroke)] else if wayS (i : Int) r = -1 then [⟨i, false⟩] else []) = r
 | 0, lo, r, last, ha, hlo, hr => by
  cases r with
  | nil => rfl
  | cons y r => have := hr y (by simp); omega
 | m + 1, lo, r, last, ha, hlo, hr => by
  rw [List.range'_succ, List.flatMap_cons]
  cases r with
  | nil =>
   have ih := mvs_way m (lo + 1) [] (lo : Int) trivial (by omega) (fun y hy => by simp at hy)
   rw [ih]
   simp [wayS]
  | cons y r =>
   obtain ⟨y0, y1, y2, ha2⟩ := ha
   by_cases hy : y.actuator = (lo : Int)
   · have hr2 : ∀ z ∈ r, ((lo + 1 : Nat) : Int) ≤ z.actuator ∧ z.actuator < ((lo + 1 + m : Nat) : Int) := fun z hz => by
      have h1 := (asc_mem ha2 z hz).2.2
      have h2 := hr z (by simp [hz])
      omega
     have ih := mvs_way m (lo + 1) r (lo : Int) (hy ▸ ha2) (by omega) hr2
     have e : ((List.range' (lo + 1) m).flatMap fun (i : Nat) => if wayS (i : Int) (y :: r) = 1 then [(⟨i, true⟩ : Stroke)] else if wayS (i : Int) (y :: r) = -1 then [⟨i, false⟩] else []) = (List.range' (lo + 1) m).flatMap fun (i : Nat) => if wayS (i : Int) r = 1 then [(⟨i, true⟩ : Stroke)] else if wayS (i : Int) r = -1 then [⟨i, false⟩] else [] := by
      rw [List.flatMap_def, List.flatMap_def]
      congr 1
      refine List.map_congr_left fun i hi => ?_
      rw [List.mem_range'_1] at hi
      have : ¬ y.actuator = (i : Int) := by omega
      rw [wayS, if_neg this]
     rw [e, ih, wayS, if_pos hy]
     obtain ⟨a, o⟩ := y
     dsimp only at hy
     subst hy
     cases o <;> rfl
   · have h1 := hr y (by simp)
     have ih := mvs_way m (lo + 1) (y :: r) (lo : Int) ⟨y0, y1, by omega, ha2⟩ (by omega) (fun z hz => by
      have h2 := hr z hz
      rcases List.mem_cons.1 hz with rfl | hz2
      · omega
      · have := (asc_mem ha2 z hz2).2.2; omega)
     have hw : wayS (lo : Int) (y :: r) = 0 := by
      rw [wayS, if_neg (by omega)]
      exact way_none ha2 (by omega)
     rw [ih, hw]
     rfl
theorem mvs_lines (f : Nat → List UInt8) (a : Nat) : ∀ (m lo : Nat), mvs a lo ((List.range' lo m).map f) = (List.range' lo m).flatMap fun i => match (f i)[a]? with | none => [] | some b => mv1 i b
 | 0, lo => rfl
 | m + 1, lo => by rw [List.range'_succ, List.map_cons, mvs, List.flatMap_cons, mvs_lines f a m (lo + 1)]
theorem mvs_step {s : Sequence} (R : RightS s) (f : Nat → List UInt8) {k a : Nat} (hk : k < s.steps.length) (hf : ∀ i < s.actuators.toNat, (f i)[a]? = some (fB s k i)) : mvs a 0 ((List.range s.actuators.toNat).map f) = (stepAt s k).strokes := by
 obtain ⟨_, hg, hy⟩ := suits_next R hk
 rw [List.range_eq_range', mvs_lines]
 refine Eq.trans ?_ (mvs_way s.actuators.toNat 0 (stepAt s k).strokes (-1) hg.asc (by omega) (fun y q => by have := hy y q; omega))
 rw [List.flatMap_def, List.flatMap_def]
 congr 1
 refine List.map_congr_left fun i hi => ?_
 rw [List.mem_range'_1] at hi
 rw [hf i (by omega)]
 dsimp only
 unfold mv1 fB
 show _ = if wayA s k i = 1 then _ else if wayA s k i = -1 then _ else _
 by_cases q1 : wayA s k i = 1
 · simp only [if_pos q1, if_true]
 · simp only [if_neg q1]
   by_cases q2 : wayA s k i = -1
   · simp only [if_pos q2]; rfl
   · simp only [if_neg q2]
     cases begB s k i <;> rfl
theorem mvs_none {s : Sequence} (f : Nat → List UInt8) {k a : Nat} (hf : ∀ i < s.actuators.toNat, (f i)[a]? = some (sB s k i)) : mvs a 0 ((List.range s.actuators.toNat).map f) = [] := by
 rw [List.range_eq_range', mvs_lines]
 rw [List.flatMap_eq_nil_iff]
 intro i hi
 rw [List.mem_range'_1] at hi
 rw [hf i (by omega)]
 dsimp only
 unfold mv1 sB restB
 cases begB s (k + 1) i <;> rfl
def givenR (l : List (List UInt8)) (most : Int) : Int := if (l.length : Int) > most then 5 else if (l.any fun x => decide (x.length > 4096)) = true then 17 else 0
theorem lgiv_loop (l : List (List UInt8)) (hl : l.length ≤ 1000) : ∀ (r pre : List (List UInt8)), l = pre ++ r → ∃ i, slices_IndexFunc_stringstring_diagram_given_1_loop1 l (some (-1)) (r.length + 1) (pre.length : Int) = some i ∧ decide (i ≥ 0) = r.any fun x => decide (x.length > 4096)
 | [], pre, e => by
  rw [slices_IndexFunc_stringstring_diagram_given_1_loop1, end_mid e]
  exact ⟨-1, rfl, rfl⟩
 | y :: r, pre, e => by
  obtain ⟨h1, h2, h3, h4, h5⟩ := step_mid e (by omega)
  obtain ⟨i, ih, k⟩ := lgiv_loop l hl r (pre ++ [y]) h4
  rw [slices_IndexFunc_stringstring_diagram_given_1_loop1, h1, if_pos rfl, h2, Option.bind_some, h3, List.length_cons, ih, List.any_cons]
  by_cases hv : y.length > 4096
  · exact ⟨(pre.length : Int), by rw [if_pos (by simp; omega)], by rw [decide_eq_true hv]; simp⟩
  · exact ⟨i, by rw [if_neg (by simp; omega)], by rw [decide_eq_false hv, k]; rfl⟩
theorem lgiv_eq (l : List (List UInt8)) (most : Int) (hm : most ≤ 100) : diagram_given l most = some (givenR l most) := by
 unfold diagram_given givenR
 by_cases h : (l.length : Int) > most
 · rw [if_pos (by simpa using h), if_pos h]
 · rw [if_neg (by simpa using h), if_neg h]
   obtain ⟨i, h1, k⟩ := lgiv_loop l (by omega) l [] rfl
   have : slices_ContainsFunc_stringstring_diagram_given_1 l = some (l.any fun x => decide (x.length > 4096)) := by
    unfold slices_ContainsFunc_stringstring_diagram_given_1 slices_IndexFunc_stringstring_diagram_given_1 joinK
    dsimp only
    rw [fuel0]
    refine Eq.trans (congrArg (fun o => Option.bind o _) h1) ?_
    rw [← k]
    rfl
   rw [this, Option.bind_some]
   cases l.any fun x => decide (x.length > 4096) <;> rfl
theorem given_zero16 {l : List (List UInt8)} {most : Int} (h : givenR l most = 0) : (l.length : Int) ≤ most ∧ ∀ x ∈ l, x.length ≤ 4096 := by
 unfold givenR at h
 split at h
 · cases h
 · split at h
   · cases h
   · rename_i h1 h2
     refine ⟨by omega, fun x hx => ?_⟩
     rcases Nat.lt_or_ge 4096 x.length with q | q
     · exact (h2 (List.any_eq_true.2 ⟨x, hx, decide_eq_true q⟩)).elim
     · exact q
theorem line_exact (s : Sequence) (i : Nat) (w : Nat → Nat) : ∀ k, (lineW s i w (fun _ => false) k).length = 3 + sumW w k + k
 | 0 => by simp [lineW, sumW]
 | k + 1 => by
  rw [lineW_succ, List.length_append, line_exact s i w k, sumW]
  simp [blk]
  omega
theorem line_split (s : Sequence) (i : Nat) (w : Nat → Nat) (k : Nat) : ∀ n, k < n → ∃ r, lineW s i w (fun _ => false) n = lineW s i w (fun _ => false) k ++ (List.replicate (w k) (fB s k i) ++ sB s k i :: r)
 | 0, h => by omega
 | n + 1, h => by
  by_cases e : k = n
  · subst e
    refine ⟨[], ?_⟩
    rw [lineW_succ]
    simp [blk]
  · obtain ⟨r, hr⟩ := line_split s i w k n (by omega)
    refine ⟨r ++ blk s i w (fun _ => false) n, ?_⟩
    rw [lineW_succ, hr]
    simp
theorem line_first (s : Sequence) (i : Nat) (w : Nat → Nat) {k n j : Nat} (hk : k < n) (hj : j < w k) : (lineW s i w (fun _ => false) n)[3 + sumW w k + k + j]? = some (fB s k i) := by
 obtain ⟨r, hr⟩ := line_split s i w k n hk
 have hl := line_exact s i w k
 rw [hr, List.getElem?_append_right (by omega), hl, show 3 + sumW w k + k + j - (3 + sumW w k + k) = j by omega, List.getElem?_append_left (by simpa using hj), List.getElem?_replicate, if_pos hj]
theorem line_second (s : Sequence) (i : Nat) (w : Nat → Nat) {k n : Nat} (hk : k < n) : (lineW s i w (fun _ => false) n)[3 + sumW w k + k + w k]? = some (sB s k i) := by
 obtain ⟨r, hr⟩ := line_split s i w k n hk
 have hl := line_exact s i w k
 rw [hr, List.getElem?_append_right (by omega), hl, show 3 + sumW w k + k + w k - (3 + sumW w k + k) = w k by omega, List.getElem?_append_right (by simp)]
 simp
theorem mvs_first {s : Sequence} (R : RightS s) (w : Nat → Nat) {k j : Nat} (hk : k < s.steps.length) (hj : j < w k) : mvs (3 + sumW w k + k + j) 0 (linesW s w (fun _ => false) s.actuators.toNat) = (stepAt s k).strokes :=
 mvs_step R (fun i => lineW s i w (fun _ => false) s.steps.length) hk (fun i hi => line_first s i w hk hj)
theorem mvs_second {s : Sequence} (w : Nat → Nat) {k : Nat} (hk : k < s.steps.length) : mvs (3 + sumW w k + k + w k) 0 (linesW s w (fun _ => false) s.actuators.toNat) = [] :=
 mvs_none (fun i => lineW s i w (fun _ => false) s.steps.length) (k := k) (fun i hi => line_second s i w hk)
def still (x : Step) : Step := ⟨x.strokes, 0⟩
theorem linesW_cons {s : Sequence} (R : RightS s) (w : Nat → Nat) (mk : Nat → Bool) : ∃ r, linesW s w mk s.actuators.toNat = lineW s 0 w mk s.steps.length :: r := by
 have n0 := R.n0
 obtain ⟨n, hn⟩ : ∃ n, s.actuators.toNat = n + 1 := ⟨s.actuators.toNat - 1, by omega⟩
 rw [hn, linesW, List.range_succ_eq_map, List.map_cons]
 exact ⟨_, rfl⟩
theorem still_all {l : List Step} (h : (l.any fun x => x.wait != 0) = false) : l.map still = l := by
 refine Eq.trans (List.map_congr_left (g := id) fun x hx => ?_) (List.map_id _)
 have := List.any_eq_false.1 h x hx
 simp at this
 obtain ⟨a, b⟩ := x
 dsimp only at this
 subst this
 rfl
theorem wd_ge {x : List UInt8} {n : Nat} (h : n < x.length) : 1 ≤ (decW x n).2 := by
 have hs : n < (⟨x.toArray⟩ : ByteArray).size := by simpa [ByteArray.size] using h
 by_cases ha : 128 ≤ ((⟨x.toArray⟩ : ByteArray)[n]'hs).toNat
 · exact (decode_high _ n hs ha).2
 · unfold decW
   rw [decode_ascii _ n hs (by omega)]
   exact Nat.le_refl _
theorem wd_one {x : List UInt8} {n : Nat} (h : n < x.length) (ha : x[n].toNat < 128) : (decW x n).2 = 1 := by
 have hs : n < (⟨x.toArray⟩ : ByteArray).size := by simpa [ByteArray.size] using h
 unfold decW
 rw [decode_ascii _ n hs ha]
def unGo (rows : List (List UInt8)) (x : List UInt8) : Nat → Int → List Int → Nat → List Step → List Int × List Step
 | 0, _, l1, _, l2 => (l1, l2)
 | f + 1, i, l1, n, l2 => if n < x.length then
  (if n < 3 ∨ 64 < l2.length then unGo rows x f i l1 (n + (decW x n).2) l2
  else if mvs n 0 rows ≠ [] then unGo rows x f (i + 1) l1 (n + (decW x n).2) (if i = 0 then l2 ++ [⟨mvs n 0 rows, 0⟩] else l2)
  else if i > 0 then unGo rows x f 0 (l1 ++ [i]) (n + (decW x n).2) l2 else unGo rows x f i l1 (n + (decW x n).2) l2)
  else (l1, l2)
theorem lun1 (rows : List (List UInt8)) (x : List UInt8) (hl : rows.length ≤ 1000) (hx : x.length ≤ 100000) (K : List Int → List Step → Option (Sequence × List Int × Int)) : ∀ (f : Nat) (i : Int) (l1 : List Int) (n : Nat) (l2 : List Step),
 x.length ≤ f + n → 0 ≤ i → i + f ≤ 200000 → l1.length + f ≤ 200000 → l2.length ≤ 65 →
 diagram_Unscale_loop1 rows K x (f + 1) i l1 n l2 = K (unGo rows x f i l1 n l2).1 (unGo rows x f i l1 n l2).2
 | 0, i, l1, n, l2, hf, h0, hi, h1, h2 => by
  rw [diagram_Unscale_loop1, if_neg (by rw [decide_eq_true_eq]; omega)]
  rfl
 | f + 1, i, l1, n, l2, hf, h0, hi, h1, h2 => by
  rw [diagram_Unscale_loop1, unGo]
  by_cases hn : n < x.length
  · have hw := wd_ge hn
    rw [if_pos (by simpa using hn), if_pos hn]
    by_cases hs : n < 3 ∨ 64 < l2.length
    · rw [if_pos (by simp; omega), if_pos hs]
      exact lun1 rows x hl hx K f i l1 _ l2 (by omega) h0 (by omega) (by omega) h2
    · rw [if_neg (by simp; omega), if_neg hs]
      unfold joinK
      dsimp only
      rw [fuel0]
      refine Eq.trans (lmv_un rows n hl _ rows [] [] rfl (by simp)) ?_
      simp only [List.nil_append, List.length_nil]
      by_cases hm : mvs n 0 rows = []
      · have hmn : ¬ mvs n 0 rows ≠ [] := fun q => q hm
        rw [if_neg hmn, if_neg (by simp [hm])]
        by_cases hp : i > 0
        · rw [if_pos (by simpa using hp), if_pos hp, appO_ok (by simp; omega) (by decide), Option.bind_some]
          exact lun1 rows x hl hx K f 0 (l1 ++ [i]) _ l2 (by omega) (by omega) (by omega) (by simp; omega) h2
        · rw [if_neg (by simpa using hp), if_neg hp]
          exact lun1 rows x hl hx K f i l1 _ l2 (by omega) h0 (by omega) (by omega) h2
      · have hlen : 0 < (mvs n 0 rows).length := List.length_pos_iff.2 hm
        rw [if_pos (by simp; omega), if_pos hm, wrap64 (by omega) (by omega)]
        by_cases hz : i = 0
        · rw [if_pos (by simpa using hz), if_pos hz, appO_ok (by simp; omega) (by decide), Option.bind_some]
          exact lun1 rows x hl hx K f (i + 1) l1 _ _ (by omega) (by omega) (by omega) (by omega) (by simp; omega)
        · rw [if_neg (by simpa using hz), if_neg hz]
          exact lun1 rows x hl hx K f (i + 1) l1 _ l2 (by omega) (by omega) (by omega) (by omega) h2
  · rw [if_neg (by simpa using hn), if_neg hn]
theorem unGo_inv (rows : List (List UInt8)) (x : List UInt8) : ∀ (f : Nat) (i : Int) (l1 : List Int) (n : Nat) (l2 : List Step), 0 ≤ i → (∀ c ∈ l1, 1 ≤ c) → (∀ t ∈ l2, t.wait = 0) →
 (∀ c ∈ (unGo rows x f i l1 n l2).1, 1 ≤ c) ∧ (∀ t ∈ (unGo rows x f i l1 n l2).2, t.wait = 0) ∧ wsum (unGo rows x f i l1 n l2).1 ≤ wsum l1 + i + f
 | 0, i, l1, n, l2, h0, h1, h2 => ⟨h1, h2, by show wsum l1 ≤ _; omega⟩
 | f + 1, i, l1, n, l2, h0, h1, h2 => by
  rw [unGo]
  split
  · split
    · obtain ⟨a, b, c⟩ := unGo_inv rows x f i l1 (n + (decW x n).2) l2 h0 h1 h2
      exact ⟨a, b, by omega⟩
    · split
      · obtain ⟨a, b, c⟩ := unGo_inv rows x f (i + 1) l1 (n + (decW x n).2) (if i = 0 then l2 ++ [⟨mvs n 0 rows, 0⟩] else l2) (by omega) h1 (fun t ht => by
         split at ht
         · rcases List.mem_append.1 ht with ht | ht
           · exact h2 t ht
           · rw [List.mem_singleton.1 ht]
         · exact h2 t ht)
        exact ⟨a, b, by omega⟩
      · split
        · rename_i hp
          obtain ⟨a, b, c⟩ := unGo_inv rows x f 0 (l1 ++ [i]) (n + (decW x n).2) l2 (Int.le_refl _) (fun c hc => by
           rcases List.mem_append.1 hc with hc | hc
           · exact h1 c hc
           · rw [List.mem_singleton.1 hc]; omega) h2
          rw [wsum_snoc] at c
          exact ⟨a, b, by omega⟩
        · obtain ⟨a, b, c⟩ := unGo_inv rows x f i l1 (n + (decW x n).2) l2 h0 h1 h2
          exact ⟨a, b, by omega⟩
  · exact ⟨h1, h2, by show wsum l1 ≤ _; omega⟩
def unI (l : List (List UInt8)) : List Int × List Step := match l with | [] => ([], []) | x :: _ => unGo l x x.length 0 [] 0 []
def seqI (l : List (List UInt8)) : Sequence := ⟨(l.length : Int), (unI l).2⟩
theorem unI_inv (l : List (List UInt8)) (h : ∀ x ∈ l, x.length ≤ 4096) : (∀ c ∈ (unI l).1, 1 ≤ c) ∧ (∀ t ∈ (unI l).2, t.wait = 0) ∧ wsum (unI l).1 ≤ 4096 := by
 cases l with
 | nil => exact ⟨fun c hc => by simp [unI] at hc, fun c hc => by simp [unI] at hc, by decide⟩
 | cons x r =>
  have hx := h x (by simp)
  obtain ⟨a, b, c⟩ := unGo_inv (x :: r) x x.length 0 [] 0 [] (Int.le_refl _) (fun c hc => by simp at hc) (fun t ht => by simp at ht)
  refine ⟨a, b, Int.le_trans c ?_⟩
  simp [wsum]
  omega
theorem sum_le {ws : List Int} (h : ∀ c ∈ ws, 1 ≤ c) (hs : wsum ws ≤ 10000) : ∀ k ≤ ws.length, sumW (wAt ws) k ≤ 10000 := fun k hk => by
 have := sum_wAt ws h k hk
 omega
theorem lunscale_eq (l : List (List UInt8)) : diagram_Unscale l = some (if givenR l 6 ≠ 0 then (⟨0, []⟩, [], givenR l 6) else if checkE (seqI l) = 0 ∧ (unI l).1.length = (unI l).2.length ∧ linesW (seqI l) (wAt (unI l).1) (fun _ => false) (seqI l).actuators.toNat = l then (seqI l, (unI l).1, 0) else (⟨0, []⟩, [], 4)) := by
 unfold diagram_Unscale
 rw [lgiv_eq l 6 (by decide), Option.bind_some]
 by_cases hg : givenR l 6 = 0
 · obtain ⟨g1, g2⟩ := given_zero16 hg
   have hgn : ¬ givenR l 6 ≠ 0 := fun q => q hg
   rw [if_neg (by simpa using hg), if_neg hgn]
   unfold joinK
   dsimp only
   have key : ∀ K : List Int → List Step → Option (Sequence × List Int × Int), (if (decide ((l.length : Int) > 0)) = true then (at? l 0).bind fun x1 => diagram_Unscale_loop1 l K x1 (x1.length - 0 + 1) 0 ([] : List Int) 0 ([] : List Step) else K ([] : List Int) ([] : List Step)) = K (unI l).1 (unI l).2 := fun K => by
    cases l with
    | nil => rfl
    | cons x r =>
     have hx := g2 x (by simp)
     rw [if_pos (by simp)]
     exact lun1 (x :: r) x (by omega) (by omega) K x.length 0 [] 0 [] (by omega) (by omega) (by omega) (by simp; omega) (by simp)
   refine Eq.trans (key _) ?_
   obtain ⟨i1, i2, i3⟩ := unI_inv l g2
   show ((sequence_Check (seqI l)).bind fun r3 => _) = _
   rw [lcheck14, Option.bind_some]
   by_cases hc : checkE (seqI l) = 0
   · have R := checkE_zero hc
     by_cases hlen : (unI l).1.length = (unI l).2.length
     · have hsl : (seqI l).steps.length = (unI l).2.length := rfl
       have e := lst_eq (seqI l) R (unI l).1 (wAt (unI l).1) (fun k hk => wAt_at (fun c hc => by have := i1 c hc; omega) (by omega)) (by have := sum_le i1 (by omega) (seqI l).steps.length (by omega); omega)
       have hcond : (checkE (seqI l) != 0 || ((unI l).1.length : Int) != ((unI l).2.length : Int)) = false := by simp [hc, hlen]
       rw [hcond, if_neg (by decide)]
       show ((diagram_stretched (seqI l) (unI l).1).bind _).bind _ = _
       rw [e, Option.bind_some, (eqTl _ _ (by rw [linesW_len]; have := R.n1; omega)), Option.bind_some, Option.bind_some]
       by_cases hd : linesW (seqI l) (wAt (unI l).1) (fun _ => false) (seqI l).actuators.toNat = l
       · rw [decide_eq_true hd, if_neg (by decide), if_pos ⟨hc, hlen, hd⟩]
         rfl
       · rw [decide_eq_false hd, if_pos (by decide), if_neg (fun q => hd q.2.2)]
     · have hcond : (checkE (seqI l) != 0 || ((unI l).1.length : Int) != ((unI l).2.length : Int)) = true := by simp [hc]; omega
       rw [hcond, if_pos rfl, Option.bind_some, if_pos rfl, if_neg (fun q => hlen q.2.1)]
   · have hcond : (checkE (seqI l) != 0 || ((unI l).1.length : Int) != ((unI l).2.length : Int)) = true := by simp [hc]
     rw [hcond, if_pos rfl, Option.bind_some, if_pos rfl, if_neg (fun q => hc q.1)]
 · rw [if_pos (by simpa using hg), if_pos hg]
theorem line_ascii (s : Sequence) (i : Nat) (hi : i < 6) (w : Nat → Nat) (k : Nat) : ∀ b ∈ lineW s i w (fun _ => false) k, b.toNat < 128 := fun b hb => by
 have h0 : ∀ i < 6, (UInt8.ofNat (65 + i)).toNat < 128 := by decide
 have hf : ∀ k, (fB s k i).toNat < 128 := fun k => by
  unfold fB restB
  split
  · decide
  · split
    · decide
    · split <;> decide
 have hs : ∀ k, (sB s k i).toNat < 128 := fun k => by
  unfold sB restB
  split <;> decide
 rw [lineW] at hb
 rcases List.mem_append.1 hb with hb | hb
 · simp only [List.mem_cons, List.not_mem_nil, or_false] at hb
   rcases hb with rfl | rfl | rfl
   · exact h0 i hi
   · decide
   · decide
 · obtain ⟨j, _, hj⟩ := List.mem_flatMap.1 hb
   simp only [blk, Bool.false_eq_true, if_false, List.nil_append, List.mem_append, List.mem_replicate, List.mem_singleton] at hj
   rcases hj with ⟨_, rfl⟩ | rfl
   · exact hf j
   · exact hs j
theorem wAt_take {ws : List Int} (h1 : ∀ c ∈ ws, 1 ≤ c) {k : Nat} (hk : k < ws.length) : ws.take (k + 1) = ws.take k ++ [(wAt ws k : Int)] ∧ 1 ≤ wAt ws k := by
 have := h1 ws[k] (List.getElem_mem hk)
 rw [List.take_succ_eq_append_getElem hk, wAt, List.getElem?_eq_getElem hk]
 refine ⟨?_, by simp; omega⟩
 congr 2
 simp
 omega
section
variable {s : Sequence} (R : RightS s) {ws : List Int} (hw : ws.length = s.steps.length) (h1 : ∀ c ∈ ws, 1 ≤ c)
def offK (ws : List Int) (k : Nat) : Nat := 3 + sumW (wAt ws) k + k
theorem offK_succ (ws : List Int) (k : Nat) : offK ws (k + 1) = offK ws k + wAt ws k + 1 := by
 unfold offK
 rw [sumW]
 omega
theorem offK_mono (ws : List Int) {a b : Nat} (h : a ≤ b) : offK ws a ≤ offK ws b := by
 have := sum_mono (wAt ws) h
 unfold offK
 omega
include R hw h1
theorem un_cols {k : Nat} (hk : k < s.steps.length) (L1 : List Int) (L2 : List Step) (h2 : L2.length ≤ 64) : ∀ (d j f : Nat), 1 ≤ j → j + d = wAt ws k →
 unGo (linesW s (wAt ws) (fun _ => false) s.actuators.toNat) (lineW s 0 (wAt ws) (fun _ => false) s.steps.length) (f + d) (j : Int) L1 (offK ws k + j) L2
  = unGo (linesW s (wAt ws) (fun _ => false) s.actuators.toNat) (lineW s 0 (wAt ws) (fun _ => false) s.steps.length) f (wAt ws k : Int) L1 (offK ws k + wAt ws k) L2
 | 0, j, f, h0, hd => by rw [show j = wAt ws k by omega]; rfl
 | d + 1, j, f, h0, hd => by
  have n0 := R.n0
  obtain ⟨_, hg, _⟩ := suits_next R hk
  have hlen := line_exact s 0 (wAt ws) s.steps.length
  have hm := offK_mono ws (show k + 1 ≤ s.steps.length by omega)
  rw [offK_succ] at hm
  have hoff : offK ws s.steps.length = (lineW s 0 (wAt ws) (fun _ => false) s.steps.length).length := by rw [hlen]; rfl
  have hlt : offK ws k + j < (lineW s 0 (wAt ws) (fun _ => false) s.steps.length).length := by omega
  have hmv : mvs (offK ws k + j) 0 (linesW s (wAt ws) (fun _ => false) s.actuators.toNat) = (stepAt s k).strokes := mvs_first R (wAt ws) hk (by omega)
  have h3 : 3 ≤ offK ws k := by unfold offK; omega
  have ih := un_cols hk L1 L2 h2 d (j + 1) f (by omega) (by omega)
  rw [show f + (d + 1) = (f + d) + 1 by omega, unGo, if_pos hlt, if_neg (by omega), hmv, if_pos hg.ne, wd_one hlt (line_ascii s 0 (by decide) _ _ _ (List.getElem_mem _)), if_neg (by omega), ← ih]
  rfl
theorem un_blocks : ∀ (m k f : Nat), k + m = s.steps.length →
 unGo (linesW s (wAt ws) (fun _ => false) s.actuators.toNat) (lineW s 0 (wAt ws) (fun _ => false) s.steps.length) (f + (offK ws s.steps.length - offK ws k)) 0 (ws.take k) (offK ws k) ((s.steps.take k).map still)
  = (ws, s.steps.map still)
 | 0, k, f, h => by
  have hlen := line_exact s 0 (wAt ws) s.steps.length
  have hk : k = s.steps.length := by omega
  subst hk
  rw [Nat.sub_self, List.take_of_length_le (by omega), List.take_of_length_le (Nat.le_refl _)]
  have hoff : offK ws s.steps.length = (lineW s 0 (wAt ws) (fun _ => false) s.steps.length).length := by rw [hlen]; rfl
  cases f with
  | zero => rfl
  | succ f => rw [Nat.add_zero, unGo, if_neg (by omega)]
 | m + 1, k, f, h => by
  have n0 := R.n0
  have hl1 := R.l1
  have hk : k < s.steps.length := by omega
  obtain ⟨_, hg, _⟩ := suits_next R hk
  obtain ⟨ht, hp⟩ := wAt_take h1 (show k < ws.length by omega)
  have hlen := line_exact s 0 (wAt ws) s.steps.length
  have hm := offK_mono ws (show k + 1 ≤ s.steps.length by omega)
  have hs := offK_succ ws k
  have hoff : offK ws s.steps.length = (lineW s 0 (wAt ws) (fun _ => false) s.steps.length).length := by rw [hlen]; rfl
  have h3 : 3 ≤ offK ws k := by unfold offK; omega
  have ih := un_blocks m (k + 1) f (by omega)
  have e1 : mvs (offK ws k + 0) 0 (linesW s (wAt ws) (fun _ => false) s.actuators.toNat) = (stepAt s k).strokes := mvs_first R (wAt ws) hk (by omega)
  have e2 : mvs (offK ws k + wAt ws k) 0 (linesW s (wAt ws) (fun _ => false) s.actuators.toNat) = [] := mvs_second (wAt ws) hk
  rw [Nat.add_zero] at e1
  have hk1 : ((s.steps.take (k + 1)).map still).length ≤ 64 := by rw [List.length_map, List.length_take]; omega
  have hk0 : ((s.steps.take k).map still).length ≤ 64 := by rw [List.length_map, List.length_take]; omega
  have est : (s.steps.take k).map still ++ [⟨(stepAt s k).strokes, 0⟩] = (s.steps.take (k + 1)).map still := by
   rw [List.take_succ_eq_append_getElem hk, List.map_append, stepAt_eq hk]
   rfl
  have hlt : offK ws k < (lineW s 0 (wAt ws) (fun _ => false) s.steps.length).length := by omega
  have hlt2 : offK ws k + wAt ws k < (lineW s 0 (wAt ws) (fun _ => false) s.steps.length).length := by omega
  have hf : f + (offK ws s.steps.length - offK ws k) = ((f + (offK ws s.steps.length - offK ws (k + 1)) + 1) + (wAt ws k - 1)) + 1 := by omega
  rw [hf, unGo, if_pos hlt, if_neg (by omega), e1, if_pos hg.ne, wd_one hlt (line_ascii s 0 (by decide) _ _ _ (List.getElem_mem _)), if_pos rfl, est]
  refine Eq.trans (un_cols R hw h1 hk (ws.take k) ((s.steps.take (k + 1)).map still) hk1 (wAt ws k - 1) 1 (f + (offK ws s.steps.length - offK ws (k + 1)) + 1) (by omega) (by omega)) ?_
  rw [unGo, if_pos hlt2, if_neg (by omega), e2, if_neg (fun q => q rfl), wd_one hlt2 (line_ascii s 0 (by decide) _ _ _ (List.getElem_mem _)), if_pos (by omega), ← ht, ← hs]
  exact ih
theorem unI_back : unI (linesW s (wAt ws) (fun _ => false) s.actuators.toNat) = (ws, s.steps.map still) := by
 have n0 := R.n0
 obtain ⟨r, hr⟩ := linesW_cons R (wAt ws) (fun _ => false)
 have hlen := line_exact s 0 (wAt ws) s.steps.length
 have hoff : offK ws s.steps.length = (lineW s 0 (wAt ws) (fun _ => false) s.steps.length).length := by rw [hlen]; rfl
 have h3 : offK ws 0 = 3 := rfl
 have hm := offK_mono ws (show 0 ≤ s.steps.length by omega)
 have skip : ∀ (n f : Nat), n < 3 → unGo (linesW s (wAt ws) (fun _ => false) s.actuators.toNat) (lineW s 0 (wAt ws) (fun _ => false) s.steps.length) (f + 1) 0 [] n [] = unGo (linesW s (wAt ws) (fun _ => false) s.actuators.toNat) (lineW s 0 (wAt ws) (fun _ => false) s.steps.length) f 0 [] (n + 1) [] := fun n f h => by
  have hlt : n < (lineW s 0 (wAt ws) (fun _ => false) s.steps.length).length := by omega
  rw [unGo, if_pos hlt, if_pos (.inl h), wd_one hlt (line_ascii s 0 (by decide) _ _ _ (List.getElem_mem _))]
 have hb := un_blocks R hw h1 s.steps.length 0 0 (by omega)
 have e : unI (linesW s (wAt ws) (fun _ => false) s.actuators.toNat) = unGo (linesW s (wAt ws) (fun _ => false) s.actuators.toNat) (lineW s 0 (wAt ws) (fun _ => false) s.steps.length) (lineW s 0 (wAt ws) (fun _ => false) s.steps.length).length 0 [] 0 [] := by
  rw [hr]
  rfl
 rw [e, show (lineW s 0 (wAt ws) (fun _ => false) s.steps.length).length = (0 + (offK ws s.steps.length - offK ws 0)) + 1 + 1 + 1 by omega, skip 0 _ (by decide), skip 1 _ (by decide), skip 2 _ (by decide)]
 exact hb
end
theorem still_of {l : List Step} (h : ∀ t ∈ l, t.wait = 0) : l.map still = l :=
 still_all (List.any_eq_false.2 fun x hx => by rw [h x hx]; simp)
def calm (s : Sequence) : Sequence := ⟨s.actuators, s.steps.map still⟩
theorem chk_still {x : Step} (g : GoodS x) : chk (still x) = 0 := chk_zero.2 ⟨g.ne, g.few, g.asc, Int.le_refl _, by show (0 : Int) ≤ 1000000; decide⟩
theorem runE_still {n : Int} : ∀ (r : List Step) (l : List Bool), (runE n l r).1 = 0 → runE n l (r.map still) = runE n l r
 | [], l, _ => rfl
 | x :: r, l, h => by
  by_cases hz : fitE n x l = 0
  · obtain ⟨g, h2, h3⟩ := fitE_zero hz
    have hz2 : fitE n (still x) l = 0 := by
     unfold fitE
     have c0 := chk_still g
     have hcn : ¬ chk (still x) ≠ 0 := fun q => q c0
     rw [if_neg hcn, if_neg (fun ⟨y, hy, q⟩ => by have := h2 y hy; omega)]
     exact if_pos h3
    have e1 : runE n l (x :: r) = runE n (setL l x.strokes) r := by rw [runE, if_neg (fun q => q hz)]
    have e2 : runE n l (still x :: r.map still) = runE n (setL l x.strokes) (r.map still) := by rw [runE, if_neg (fun q => q hz2)]; rfl
    rw [e1] at h
    rw [List.map_cons, e1, e2, runE_still r _ h]
  · rw [runE, if_pos hz] at h
    exact absurd h hz
theorem flat_still (l : List Step) : flat (l.map still) = flat l := by
 unfold flat
 rw [List.flatMap_map]
 rfl
theorem calm_check {s : Sequence} (h : checkE s = 0) : checkE (calm s) = 0 := by
 have R := checkE_zero h
 have he : (runE s.actuators (zeros s.actuators.toNat) s.steps).1 = 0 := by
  unfold checkE at h
  split at h
  · cases h
  · split at h
    · cases h
    · split at h
      · cases h
      · split at h
        · rename_i q; exact absurd h q
        · rename_i q; exact Decidable.not_not.1 q
 have e := runE_still s.steps (zeros s.actuators.toNat) he
 unfold checkE at h ⊢
 simp only [calm, List.length_map, e, flat_still]
 exact h
theorem calm_stepAt (s : Sequence) (k : Nat) : (stepAt (calm s) k).strokes = (stepAt s k).strokes := by
 unfold stepAt calm
 simp only [List.getElem?_map]
 cases s.steps[k]? <;> rfl
theorem behL_still : ∀ (r : List Step) (l : List Bool), behL l (r.map still) = behL l r
 | [], l => rfl
 | x :: r, l => by rw [List.map_cons, behL_cons, behL_cons, behL_still r]; rfl
theorem calm_beh (s : Sequence) (k : Nat) : beh (calm s) k = beh s k := by
 unfold beh
 show behL (zeros s.actuators.toNat) ((s.steps.map still).take k) = _
 rw [← List.map_take, behL_still]
theorem calm_lines (s : Sequence) (w : Nat → Nat) (mk : Nat → Bool) (n : Nat) : linesW (calm s) w mk n = linesW s w mk n := by
 have hb : ∀ k i, begB (calm s) k i = begB s k i := fun k i => by unfold begB; rw [calm_beh]
 have hf : ∀ k i, fB (calm s) k i = fB s k i := fun k i => by unfold fB wayA; rw [calm_stepAt, hb]
 unfold linesW lineW blk sB
 simp only [hb, hf]
 simp [calm]
theorem runMotion_true : top_runMotion = some true := by kernel_rfl
def mxa {α : Type} (f : α → Int) : Int → List α → Int
 | a, [] => a
 | a, y :: r => mxa f (if f y > a then f y else a) r
theorem mxa_ge {α : Type} (f : α → Int) : ∀ (r : List α) (a : Int), a ≤ mxa f a r
 | [], a => Int.le_refl _
 | y :: r, a => by
  rw [mxa]
  have := mxa_ge f r (if f y > a then f y else a)
  split at this <;> rename_i h <;> simp only [h, if_true, if_false] <;> omega
theorem mxa_le {α : Type} (f : α → Int) (b : Int) : ∀ (r : List α) (a : Int), a ≤ b → (∀ y ∈ r, f y ≤ b) → mxa f a r ≤ b
 | [], a, h, _ => h
 | y :: r, a, h, k => by
  rw [mxa]
  have := k y (List.mem_cons_self ..)
  exact mxa_le f b r _ (by split <;> omega) fun z hz => k z (List.mem_cons_of_mem _ hz)
theorem mxa_mono {α β : Type} (f : α → Int) (g : β → Int) : ∀ (r : List α) (q : List β) (a b : Int), r.length = q.length → a ≤ b → (∀ i (h1 : i < r.length) (h2 : i < q.length), f r[i] ≤ g q[i]) → mxa f a r ≤ mxa g b q
 | [], [], a, b, _, h, _ => h
 | y :: r, z :: q, a, b, hl, h, k => by
  rw [mxa, mxa]
  have h0 := k 0 (by simp) (by simp)
  simp at h0
  exact mxa_mono f g r q _ _ (by simpa using hl) (by split <;> split <;> omega) fun i h1 h2 => by
   have := k (i + 1) (by simpa using h1) (by simpa using h2)
   simpa using this
 | [], _ :: _, _, _, h, _, _ => by simp at h
 | _ :: _, [], _, _, h, _, _ => by simp at h
theorem mxa_add {α : Type} (f : α → Int) (n : Int) : ∀ (r : List α) (a : Int), mxa (fun y => n + f y) (n + a) r = n + mxa f a r
 | [], a => rfl
 | y :: r, a => by
  rw [mxa, mxa, ← mxa_add f n r]
  congr 1
  split <;> split <;> omega
def spanOk (x : Span) : Prop := 0 ≤ x.low ∧ x.low ≤ x.high ∧ x.high ≤ 1000000
def PlantOk (p : Plant) : Prop := p.travels.length ≤ 6 ∧ ∀ t ∈ p.travels, spanOk t.out ∧ spanOk t.in_
def wayOf (p : Plant) (y : Stroke) : Span := match p.travels[y.actuator.toNat]? with | none => ⟨0, 0⟩ | some t => if y.out = true then t.out else t.in_
def StOk (p : Plant) (l : List Stroke) : Prop := ∀ y ∈ l, 0 ≤ y.actuator ∧ y.actuator.toNat < p.travels.length
theorem way_at {p : Plant} {y : Stroke} (h0 : 0 ≤ y.actuator) (h1 : y.actuator.toNat < p.travels.length) : ∃ t, at? p.travels y.actuator = some t ∧ t ∈ p.travels ∧ wayOf p y = if y.out = true then t.out else t.in_ := by
 refine ⟨p.travels[y.actuator.toNat], ?_, List.getElem_mem h1, ?_⟩
 · unfold at?
   rw [if_pos h0, List.getElem?_eq_getElem h1]
 · unfold wayOf
   rw [List.getElem?_eq_getElem h1]
theorem way_ok {p : Plant} (h : PlantOk p) {y : Stroke} (h0 : 0 ≤ y.actuator) (h1 : y.actuator.toNat < p.travels.length) : spanOk (wayOf p y) := by
 obtain ⟨t, _, hm, e⟩ := way_at h0 h1
 rw [e]
 have := h.2 t hm
 split
 · exact this.1
 · exact this.2
theorem rway_eq17 {p : Plant} {y : Stroke} (h0 : 0 ≤ y.actuator) (h1 : y.actuator.toNat < p.travels.length) : ref17_Way p y = some (wayOf p y) := by
 obtain ⟨t, ht, _, e⟩ := way_at h0 h1
 rw [ref17_Way, ht, e, Option.bind_some, Option.bind_some]
 split <;> rfl
theorem lway_eq17 {p : Plant} {y : Stroke} (h0 : 0 ≤ y.actuator) (h1 : y.actuator.toNat < p.travels.length) : schedule_way p y = some (wayOf p y) := by
 obtain ⟨t, ht, _, e⟩ := way_at h0 h1
 rw [schedule_way, joinK, ht, e]
 cases y.out <;> rfl
def mvLo (p : Plant) (x : Step) : Int := mxa (fun y => (wayOf p y).low) 0 x.strokes
def mvHi (p : Plant) (x : Step) : Int := mxa (fun y => (wayOf p y).high) 0 x.strokes
theorem mv_ok {p : Plant} (h : PlantOk p) {x : Step} (hx : StOk p x.strokes) : 0 ≤ mvLo p x ∧ mvLo p x ≤ mvHi p x ∧ mvHi p x ≤ 1000000 := by
 refine ⟨mxa_ge _ _ _, mxa_mono _ _ _ _ _ _ rfl (Int.le_refl _) fun i h1 h2 => ?_, mxa_le _ _ _ _ (by decide) fun y hy => (way_ok h (hx y hy).1 (hx y hy).2).2.2⟩
 have hy := hx _ (List.getElem_mem h1)
 exact (way_ok h hy.1 hy.2).2.1
theorem mv_loop1 (p : Plant) (x : Step) (hl : x.strokes.length ≤ 1000) (hx : StOk p x.strokes) (K : Int → Option Span) : ∀ (r pre : List Stroke) (a : Int), x.strokes = pre ++ r → schedule_moves_loop1 p x K (r.length + 1) a (pre.length : Int) = K (mxa (fun y => (wayOf p y).low) a r)
 | [], pre, a, e => by rw [schedule_moves_loop1, end_mid e, if_neg (by simp)]; rfl
 | y :: r, pre, a, e => by
  obtain ⟨h1, h2, h3, h4, h5⟩ := step_mid e (by omega)
  have hy := hx y (by rw [e]; simp)
  rw [List.length_cons, schedule_moves_loop1, h1, if_pos rfl, h2, Option.bind_some, lway_eq17 hy.1 hy.2, Option.bind_some, h3, mv_loop1 p x hl hx K r (pre ++ [y]) _ h4, mxa]
theorem mv_loop2 (p : Plant) (x : Step) (hl : x.strokes.length ≤ 1000) (hx : StOk p x.strokes) (K : Int → Option Span) : ∀ (r pre : List Stroke) (a : Int), x.strokes = pre ++ r → schedule_moves_loop2 p x K (r.length + 1) a (pre.length : Int) = K (mxa (fun y => (wayOf p y).high) a r)
 | [], pre, a, e => by rw [schedule_moves_loop2, end_mid e, if_neg (by simp)]; rfl
 | y :: r, pre, a, e => by
  obtain ⟨h1, h2, h3, h4, h5⟩ := step_mid e (by omega)
  have hy := hx y (by rw [e]; simp)
  rw [List.length_cons, schedule_moves_loop2, h1, if_pos rfl, h2, Option.bind_some, lway_eq17 hy.1 hy.2, Option.bind_some, h3, mv_loop2 p x hl hx K r (pre ++ [y]) _ h4, mxa]
theorem moves_eq17 (p : Plant) (x : Step) (hl : x.strokes.length ≤ 1000) (hx : StOk p x.strokes) : schedule_moves p x = some ⟨mvLo p x, mvHi p x⟩ := by
 unfold schedule_moves joinK
 dsimp only
 rw [fuel0]
 refine (mv_loop1 p x hl hx _ x.strokes [] 0 rfl).trans ?_
 exact mv_loop2 p x hl hx _ x.strokes [] 0 rfl
def endLo (p : Plant) (l : List Step) : Int := (l.map fun x => mvLo p x + x.wait).sum
def endHi (p : Plant) (l : List Step) : Int := (l.map fun x => mvHi p x + x.wait).sum
def StepOk (p : Plant) (x : Step) : Prop := StOk p x.strokes ∧ x.strokes.length ≤ 1000 ∧ 0 ≤ x.wait ∧ x.wait ≤ 1000000
theorem end_snoc (p : Plant) (l : List Step) (x : Step) : endLo p (l ++ [x]) = endLo p l + (mvLo p x + x.wait) ∧ endHi p (l ++ [x]) = endHi p l + (mvHi p x + x.wait) := by
 simp [endLo, endHi]
theorem end_ok {p : Plant} (h : PlantOk p) : ∀ {l : List Step}, (∀ x ∈ l, StepOk p x) → 0 ≤ endLo p l ∧ endLo p l ≤ endHi p l ∧ endHi p l ≤ 2000000 * l.length
 | [], _ => by simp [endLo, endHi]
 | x :: l, k => by
  obtain ⟨a, b, c⟩ := end_ok h (l := l) fun y hy => k y (List.mem_cons_of_mem _ hy)
  obtain ⟨hx, _, w0, w1⟩ := k x (List.mem_cons_self ..)
  obtain ⟨d, e, f⟩ := mv_ok h hx
  have e1 : endLo p (x :: l) = mvLo p x + x.wait + endLo p l := by simp [endLo]
  have e2 : endHi p (x :: l) = mvHi p x + x.wait + endHi p l := by simp [endHi]
  rw [e1, e2, List.length_cons]
  omega
section
variable {s : Sequence} {p : Plant} (hP : PlantOk p) (hS : ∀ x ∈ s.steps, StepOk p x) (hl : s.steps.length ≤ 100)
include hP hS hl
theorem whole_loop : ∀ (r pre : List Step) (z : Int × Int), s.steps = pre ++ r → z = (endLo p pre, endHi p pre) → schedule_slots_1_loop1 schedule_whole_rng1 s p (r.length + 1) z (pre.length : Int) (endLo p pre) (endHi p pre) = some (true, (endLo p s.steps, endHi p s.steps))
 | [], pre, z, e, hz => by rw [schedule_slots_1_loop1, end_mid e, if_neg (by simp), hz, e, List.append_nil]
 | x :: r, pre, z, e, hz => by
  obtain ⟨h1, h2, h3, h4, h5⟩ := step_mid e (by omega)
  obtain ⟨hx, hxl, w0, w1⟩ := hS x (by rw [e]; simp)
  have hpre : ∀ y ∈ pre, StepOk p y := fun y hy => hS y (by rw [e]; simp [hy])
  obtain ⟨a, b, c⟩ := end_ok hP hpre
  obtain ⟨d, f, g⟩ := mv_ok hP hx
  obtain ⟨q1, q2⟩ := end_snoc p pre x
  have hpl : (pre.length : Int) ≤ 100 := by omega
  have ih := whole_loop r (pre ++ [x]) (endLo p (pre ++ [x]), endHi p (pre ++ [x])) h4 rfl
  have v1 : IntKind.wrap .i64 (endLo p pre + mvLo p x) = endLo p pre + mvLo p x := wrap64 (by omega) (by omega)
  have v2 : IntKind.wrap .i64 (endHi p pre + mvHi p x) = endHi p pre + mvHi p x := wrap64 (by omega) (by omega)
  have v3 : IntKind.wrap .i64 (endLo p pre + mvLo p x + x.wait) = endLo p (pre ++ [x]) := by rw [q1, wrap64 (by omega) (by omega)]; omega
  have v4 : IntKind.wrap .i64 (endHi p pre + mvHi p x + x.wait) = endHi p (pre ++ [x]) := by rw [q2, wrap64 (by omega) (by omega)]; omega
  rw [List.length_cons, schedule_slots_1_loop1, h1, if_pos rfl, h2, Option.bind_some, joinK, moves_eq17 p x hxl hx, Option.bind_some, schedule_later, Option.bind_some]
  dsimp only
  rw [v1, v2, schedule_waited, schedule_later, Option.bind_some]
  dsimp only
  rw [v3, v4, Option.bind_some, schedule_whole_rng1, Option.bind_some, if_pos rfl, h3]
  exact ih
theorem whole_eq17 : schedule_whole s p = some ⟨endLo p s.steps, endHi p s.steps⟩ := by
 rw [schedule_whole, schedule_slots_1, fuel0]
 have := whole_loop hP hS hl s.steps [] (0, 0) rfl rfl
 have e : schedule_slots_1_loop1 schedule_whole_rng1 s p (s.steps.length + 1) (0, 0) 0 0 0 = some (true, (endLo p s.steps, endHi p s.steps)) := this
 rw [e, Option.bind_some, if_pos rfl]
end
section
variable {s : Sequence} {p : Plant} (hP : PlantOk p) (hS : ∀ x ∈ s.steps, StepOk p x) (hl : s.steps.length ≤ 100)
include hP
theorem all_loop2 (x : Step) (hxl : x.strokes.length ≤ 1000) (hx : StOk p x.strokes) (lo hi : Int) (l0 : 0 ≤ lo) (l1 : lo ≤ 1000000000) (h0 : 0 ≤ hi) (h1 : hi ≤ 1000000000) (K : Int → Int → Option (List RSlot)) : ∀ (r pre : List Stroke) (a b : Int), x.strokes = pre ++ r → ref17_All_loop2 p lo hi x K (r.length + 1) (pre.length : Int) a b = K (mxa (fun y => lo + (wayOf p y).low) a r) (mxa (fun y => hi + (wayOf p y).high) b r)
 | [], pre, a, b, e => by rw [ref17_All_loop2, end_mid e, if_neg (by simp)]; rfl
 | y :: r, pre, a, b, e => by
  obtain ⟨g1, g2, g3, g4, g5⟩ := step_mid e (by omega)
  have hy := hx y (by rw [e]; simp)
  obtain ⟨w0, w1, w2⟩ := way_ok hP hy.1 hy.2
  rw [List.length_cons, ref17_All_loop2, g1, if_pos rfl, g2, Option.bind_some, rway_eq17 hy.1 hy.2, Option.bind_some, ref03_Plus, Option.bind_some, ref03_Last, Option.bind_some, g3]
  dsimp only
  rw [wrap64 (x := lo + _) (by omega) (by omega), wrap64 (x := hi + _) (by omega) (by omega), all_loop2 x hxl hx lo hi l0 l1 h0 h1 K r (pre ++ [y]) _ _ g4, mxa, mxa]
include hS hl
theorem all_loop1 (K : List RSlot → Option (List RSlot)) : ∀ (r pre : List Step) (L : List RSlot), s.steps = pre ++ r → L.length = pre.length → (∀ q, L.getLast? = some q → q.end_ = ⟨endLo p pre, endHi p pre⟩) →
 ∃ L', ref17_All_loop1 s K p (r.length + 1) (pre.length : Int) L (endLo p pre) (endHi p pre) = K L' ∧ L'.length = s.steps.length ∧ ∀ q, L'.getLast? = some q → q.end_ = ⟨endLo p s.steps, endHi p s.steps⟩
 | [], pre, L, e, hL, hq => by
  rw [ref17_All_loop1, end_mid e, if_neg (by simp)]
  rw [List.append_nil] at e
  rw [e]
  exact ⟨L, rfl, hL, hq⟩
 | x :: r, pre, L, e, hL, hq => by
  obtain ⟨h1, h2, h3, h4, h5⟩ := step_mid e (by omega)
  obtain ⟨hx, hxl, w0, w1⟩ := hS x (by rw [e]; simp)
  have hpre : ∀ y ∈ pre, StepOk p y := fun y hy => hS y (by rw [e]; simp [hy])
  obtain ⟨a, b, c⟩ := end_ok hP hpre
  obtain ⟨d, f, g⟩ := mv_ok hP hx
  obtain ⟨q1, q2⟩ := end_snoc p pre x
  have hpl : (pre.length : Int) ≤ 100 := by omega
  have m1 : mxa (fun y => endLo p pre + (wayOf p y).low) (endLo p pre) x.strokes = endLo p pre + mvLo p x := by
   have := mxa_add (fun y => (wayOf p y).low) (endLo p pre) x.strokes 0
   rwa [Int.add_zero] at this
  have m2 : mxa (fun y => endHi p pre + (wayOf p y).high) (endHi p pre) x.strokes = endHi p pre + mvHi p x := by
   have := mxa_add (fun y => (wayOf p y).high) (endHi p pre) x.strokes 0
   rwa [Int.add_zero] at this
  have v3 : IntKind.wrap .i64 (endLo p pre + mvLo p x + x.wait) = endLo p (pre ++ [x]) := by rw [q1, wrap64 (by omega) (by omega)]; omega
  have v4 : IntKind.wrap .i64 (endHi p pre + mvHi p x + x.wait) = endHi p (pre ++ [x]) := by rw [q2, wrap64 (by omega) (by omega)]; omega
  obtain ⟨L', k1, k2, k3⟩ := all_loop1 K r (pre ++ [x]) (L ++ [⟨⟨endLo p pre, endHi p pre⟩, ⟨endLo p pre + mvLo p x, endHi p pre + mvHi p x⟩, ⟨endLo p (pre ++ [x]), endHi p (pre ++ [x])⟩⟩]) h4 (by simp [hL]) (fun q hq => by
   rw [List.getLast?_append, List.getLast?_singleton] at hq
   cases hq
   rfl)
  refine ⟨L', ?_, k2, k3⟩
  rw [List.length_cons, ref17_All_loop1, h1, if_pos rfl, h2, h3]
  unfold joinK
  dsimp only
  rw [Option.bind_some, fuel0]
  refine (all_loop2 hP x hxl hx (endLo p pre) (endHi p pre) a (by omega) (by omega) (by omega) _ x.strokes [] _ _ rfl).trans ?_
  try dsimp only
  rw [m1, m2, ref17_point, Option.bind_some, ref03_Plus, Option.bind_some]
  try dsimp only
  rw [v3, v4, appO_ok (by simp only [List.length_cons, List.length_nil]; omega) (by decide), Option.bind_some]
  exact k1
theorem rwhole_eq17 (hne : s.steps ≠ []) : ref17_Whole s p = some ⟨endLo p s.steps, endHi p s.steps⟩ := by
 obtain ⟨L', k1, k2, k3⟩ := all_loop1 hP hS hl (fun l4 => some l4) s.steps [] [] rfl rfl (fun q hq => by cases hq)
 have e : ref17_All s p = some L' := by
  unfold ref17_All ref17_point joinK
  dsimp only
  rw [Option.bind_some, fuel0]
  exact k1
 have hpos : 0 < L'.length := by rw [k2]; exact List.length_pos_iff.2 hne
 have hn : L' ≠ [] := List.length_pos_iff.1 hpos
 have h := at?_last (pre := L') (r := []) hn (by omega)
 rw [List.append_nil, k2] at h
 obtain ⟨q, hq⟩ : ∃ q, L'.getLast? = some q := by
  cases hg : L'.getLast? with
  | none => exact absurd (List.getLast?_eq_none_iff.1 hg) hn
  | some q => exact ⟨q, rfl⟩
 rw [ref17_Whole, e, Option.bind_some, h, hq, Option.bind_some, k3 q hq]
end
def spanE (x : Span) : Int := if (0 ≤ x.low ∧ x.low ≤ 1000000) ∧ 0 ≤ x.high ∧ x.high ≤ 1000000 then (if x.low > x.high then 9 else 0) else 2
theorem spanE_zero {x : Span} : spanE x = 0 ↔ spanOk x := by
 unfold spanE spanOk
 constructor
 · intro h
   split at h
   · split at h
     · cases h
     · omega
   · cases h
 · intro h
   rw [if_pos (by omega), if_neg (by omega)]
theorem rspan_eq (x : Span) : ref03_Check x = some (spanE x) := by
 unfold ref03_Check ref03_Time
 by_cases h1 : 0 ≤ x.low ∧ x.low ≤ 1000000
 · by_cases h2 : 0 ≤ x.high ∧ x.high ≤ 1000000
   · have e1 : (decide (x.low ≥ 0) && decide (x.low ≤ 1000000)) = true := by rw [Bool.and_eq_true, decide_eq_true_eq, decide_eq_true_eq]; omega
     have e2 : (decide (x.high ≥ 0) && decide (x.high ≤ 1000000)) = true := by rw [Bool.and_eq_true, decide_eq_true_eq, decide_eq_true_eq]; omega
     have hs : spanE x = if x.low > x.high then 9 else 0 := if_pos ⟨h1, h2⟩
     rw [e1, e2, hs]
     by_cases h3 : x.low > x.high <;> simp [h3]
   · have e1 : (decide (x.low ≥ 0) && decide (x.low ≤ 1000000)) = true := by rw [Bool.and_eq_true, decide_eq_true_eq, decide_eq_true_eq]; omega
     have e2 : (decide (x.high ≥ 0) && decide (x.high ≤ 1000000)) = false := by rw [Bool.and_eq_false_iff, decide_eq_false_iff_not, decide_eq_false_iff_not]; omega
     have hs : spanE x = 2 := if_neg (by omega)
     rw [e1, e2, hs]
     rfl
 · have e1 : (decide (x.low ≥ 0) && decide (x.low ≤ 1000000)) = false := by rw [Bool.and_eq_false_iff, decide_eq_false_iff_not, decide_eq_false_iff_not]; omega
   have hs : spanE x = 2 := if_neg (by omega)
   rw [e1, hs]
   rfl
theorem lspan_eq (x : Span) : timespan_Check x = some (spanE x) := rspan_eq x
def travE (t : Travel) : Int := if spanE t.out ≠ 0 then spanE t.out else spanE t.in_
def errT : List Travel → Int
 | [] => 0
 | t :: r => if travE t ≠ 0 then travE t else errT r
theorem errT_zero : ∀ {l : List Travel}, errT l = 0 → ∀ t ∈ l, spanOk t.out ∧ spanOk t.in_
 | [], _, t, ht => by cases ht
 | a :: l, h, t, ht => by
  rw [errT] at h
  by_cases h0 : travE a = 0
  · rw [if_neg (by simpa using h0)] at h
    rcases List.mem_cons.1 ht with rfl | ht
    · unfold travE at h0
      by_cases h1 : spanE t.out = 0
      · rw [if_neg (by simpa using h1)] at h0
        exact ⟨spanE_zero.1 h1, spanE_zero.1 h0⟩
      · rw [if_pos h1] at h0
        exact absurd h0 h1
    · exact errT_zero h t ht
  · rw [if_pos h0] at h
    exact absurd h h0
theorem rtrav_loop (p : Plant) (hl : p.travels.length ≤ 1000000) (K : Option Int) : ∀ (r pre : List Travel), p.travels = pre ++ r → ref17_Check_loop1 p K (r.length + 1) (pre.length : Int) = if errT r ≠ 0 then some (errT r) else K
 | [], pre, e => by rw [ref17_Check_loop1, end_mid e, if_neg (by simp), errT, if_neg (by simp)]
 | t :: r, pre, e => by
  obtain ⟨h1, h2, h3, h4, h5⟩ := step_mid e (by omega)
  have ih := rtrav_loop p hl K r (pre ++ [t]) h4
  rw [List.length_cons, ref17_Check_loop1, h1, if_pos rfl, h2, Option.bind_some, rspan_eq, Option.bind_some, Option.bind_some, rspan_eq, Option.bind_some, h3, ih, errT, travE]
  by_cases q1 : spanE t.out = 0
  · by_cases q2 : spanE t.in_ = 0
    · simp [q1, q2]
    · simp [q1, q2]
  · simp [q1]
theorem ltrav_loop2 (K : Option Int) (t : Travel) : schedule_Check_loop2 K t (Int.toNat ((([t.out, t.in_] : List Span).length : Int) - 0) + 1) 0 = if travE t ≠ 0 then some (travE t) else K := by
 have f : Int.toNat ((([t.out, t.in_] : List Span).length : Int) - 0) + 1 = 3 := rfl
 have v1 : IntKind.wrap .i64 ((0 : Int) + 1) = 1 := by decide
 have v2 : IntKind.wrap .i64 ((1 : Int) + 1) = 2 := by decide
 have x1 : IntKind.wrap .i64 1 = 1 := by decide
 have x2 : IntKind.wrap .i64 2 = 2 := by decide
 have a0 : at? [t.out, t.in_] (0 : Int) = some t.out := rfl
 have a1 : at? [t.out, t.in_] (1 : Int) = some t.in_ := rfl
 have c0 : decide ((0 : Int) < (([t.out, t.in_] : List Span).length : Int)) = true := rfl
 have c1 : decide ((1 : Int) < (([t.out, t.in_] : List Span).length : Int)) = true := rfl
 have c2 : decide ((2 : Int) < (([t.out, t.in_] : List Span).length : Int)) = false := rfl
 rw [f]
 by_cases q1 : spanE t.out = 0 <;> by_cases q2 : spanE t.in_ = 0 <;> simp [schedule_Check_loop2, lspan_eq, a0, a1, x1, x2, travE, q1, q2]
theorem ltrav_loop (p : Plant) (hl : p.travels.length ≤ 1000000) (K : Option Int) : ∀ (r pre : List Travel), p.travels = pre ++ r → schedule_Check_loop1 p K (r.length + 1) (pre.length : Int) = if errT r ≠ 0 then some (errT r) else K
 | [], pre, e => by rw [schedule_Check_loop1, end_mid e, if_neg (by simp), errT, if_neg (by simp)]
 | t :: r, pre, e => by
  obtain ⟨h1, h2, h3, h4, h5⟩ := step_mid e (by omega)
  have ih := ltrav_loop p hl K r (pre ++ [t]) h4
  rw [List.length_cons, schedule_Check_loop1, h1, if_pos rfl, joinK, h2, Option.bind_some, ltrav_loop2, h3, ih, errT]
  by_cases q1 : travE t = 0
  · simp [q1]
  · simp [q1]
def chk17 (s : Sequence) (p : Plant) : Int := if checkE s ≠ 0 then checkE s else if (p.travels.length : Int) ≠ s.actuators then 8 else if errT p.travels ≠ 0 then errT p.travels else if endHi p s.steps > 1000000 then 11 else 0
theorem parts17 {s : Sequence} {p : Plant} (R : RightS s) (h : (p.travels.length : Int) = s.actuators) (e : errT p.travels = 0) : PlantOk p ∧ ∀ x ∈ s.steps, StepOk p x := by
 have n1 := R.n1
 refine ⟨⟨by omega, errT_zero e⟩, fun x hx => ?_⟩
 obtain ⟨g, ha⟩ := R.good x hx
 exact ⟨fun y hy => ⟨(asc_mem g.asc y hy).1, by have := (asc_mem g.asc y hy).1; have := ha y hy; omega⟩, by have := g.few; omega, g.w0, g.w1⟩
theorem rchk17 (s : Sequence) (p : Plant) (hl : p.travels.length ≤ 1000000) : ref17_Check s p = some (chk17 s p) := by
 by_cases h0 : checkE s = 0
 · have n0 : ¬ checkE s ≠ 0 := fun q => q h0
   have R := checkE_zero h0
   have hl1 := R.l1
   by_cases h1 : (p.travels.length : Int) = s.actuators
   · have n1 : ¬ (p.travels.length : Int) ≠ s.actuators := fun q => q h1
     by_cases h2 : errT p.travels = 0
     · have n2 : ¬ errT p.travels ≠ 0 := fun q => q h2
       obtain ⟨a, b⟩ := parts17 R h1 h2
       have e : chk17 s p = if endHi p s.steps > 1000000 then 11 else 0 := by rw [chk17, if_neg n0, if_neg n1, if_neg n2]
       rw [ref17_Check, rcheck14, Option.bind_some, if_neg (by simpa using h0), if_neg (by simpa using h1), joinK, fuel0]
       refine (rtrav_loop p hl _ p.travels [] rfl).trans ?_
       rw [if_neg n2, rwhole_eq17 a b (by omega) R.l0, Option.bind_some, e]
       by_cases h3 : endHi p s.steps > 1000000
       · rw [if_pos (by simpa using h3), if_pos h3]
       · rw [if_neg (by simpa using h3), if_neg h3]
     · have e : chk17 s p = errT p.travels := by rw [chk17, if_neg n0, if_neg n1, if_pos h2]
       rw [ref17_Check, rcheck14, Option.bind_some, if_neg (by simpa using h0), if_neg (by simpa using h1), joinK, fuel0]
       refine (rtrav_loop p hl _ p.travels [] rfl).trans ?_
       rw [if_pos h2, e]
   · have e : chk17 s p = 8 := by rw [chk17, if_neg n0, if_pos h1]
     rw [ref17_Check, rcheck14, Option.bind_some, if_neg (by simpa using h0), if_pos (by simpa using h1), e]
 · have e : chk17 s p = checkE s := by rw [chk17, if_pos h0]
   rw [ref17_Check, rcheck14, Option.bind_some, if_pos (by simpa using h0), e]
theorem lchk17 (s : Sequence) (p : Plant) (hl : p.travels.length ≤ 1000000) : schedule_Check s p = some (chk17 s p) := by
 by_cases h0 : checkE s = 0
 · have n0 : ¬ checkE s ≠ 0 := fun q => q h0
   have R := checkE_zero h0
   have hl1 := R.l1
   by_cases h1 : (p.travels.length : Int) = s.actuators
   · have n1 : ¬ (p.travels.length : Int) ≠ s.actuators := fun q => q h1
     by_cases h2 : errT p.travels = 0
     · have n2 : ¬ errT p.travels ≠ 0 := fun q => q h2
       obtain ⟨a, b⟩ := parts17 R h1 h2
       have e : chk17 s p = if endHi p s.steps > 1000000 then 11 else 0 := by rw [chk17, if_neg n0, if_neg n1, if_neg n2]
       rw [schedule_Check, lcheck14, Option.bind_some, if_neg (by simpa using h0), if_neg (by simpa using h1), joinK, fuel0]
       refine (ltrav_loop p hl _ p.travels [] rfl).trans ?_
       rw [if_neg n2, whole_eq17 a b (by omega), Option.bind_some, e]
       by_cases h3 : endHi p s.steps > 1000000
       · rw [if_pos (by simpa using h3), if_pos h3]
       · rw [if_neg (by simpa using h3), if_neg h3]
     · have e : chk17 s p = errT p.travels := by rw [chk17, if_neg n0, if_neg n1, if_pos h2]
       rw [schedule_Check, lcheck14, Option.bind_some, if_neg (by simpa using h0), if_neg (by simpa using h1), joinK, fuel0]
       refine (ltrav_loop p hl _ p.travels [] rfl).trans ?_
       rw [if_pos h2, e]
   · have e : chk17 s p = 8 := by rw [chk17, if_neg n0, if_pos h1]
     rw [schedule_Check, lcheck14, Option.bind_some, if_neg (by simpa using h0), if_pos (by simpa using h1), e]
 · have e : chk17 s p = checkE s := by rw [chk17, if_pos h0]
   rw [schedule_Check, lcheck14, Option.bind_some, if_pos (by simpa using h0), e]
theorem chk17_zero {s : Sequence} {p : Plant} (h : chk17 s p = 0) : checkE s = 0 ∧ RightS s ∧ PlantOk p ∧ (∀ x ∈ s.steps, StepOk p x) ∧ endHi p s.steps ≤ 1000000 := by
 unfold chk17 at h
 by_cases h0 : checkE s = 0
 · have n0 : ¬ checkE s ≠ 0 := fun q => q h0
   have R := checkE_zero h0
   rw [if_neg n0] at h
   by_cases h1 : (p.travels.length : Int) = s.actuators
   · have n1 : ¬ (p.travels.length : Int) ≠ s.actuators := fun q => q h1
     rw [if_neg n1] at h
     by_cases h2 : errT p.travels = 0
     · have n2 : ¬ errT p.travels ≠ 0 := fun q => q h2
       rw [if_neg n2] at h
       obtain ⟨a, b⟩ := parts17 R h1 h2
       split at h
       · cases h
       · exact ⟨h0, R, a, b, by omega⟩
     · rw [if_pos h2] at h; exact absurd h h2
   · rw [if_pos h1] at h; cases h
 · rw [if_pos h0] at h; exact absurd h h0
theorem cycle_eq17 (s : Sequence) (p : Plant) (h : chk17 s p = 0) : schedule_Cycle s p = some (⟨endLo p s.steps, endHi p s.steps⟩, 0) := by
 obtain ⟨h0, R, a, b, c⟩ := chk17_zero h
 have hl1 := R.l1
 rw [schedule_Cycle, lchk17 s p (by have := a.1; omega), h, Option.bind_some, if_neg (by simp), whole_eq17 a b (by omega), Option.bind_some]
def inAll (p : Plant) : List Stroke → List Int → Bool
 | y :: r, t :: q => (decide (t ≥ (wayOf p y).low) && decide (t ≤ (wayOf p y).high)) && inAll p r q
 | _, _ => true
theorem inAll_get (p : Plant) : ∀ (r : List Stroke) (q : List Int), inAll p r q = true → ∀ i (h1 : i < r.length) (h2 : i < q.length), (wayOf p r[i]).low ≤ q[i] ∧ q[i] ≤ (wayOf p r[i]).high
 | y :: r, t :: q, h, 0, _, _ => by
  rw [inAll, Bool.and_eq_true, Bool.and_eq_true, decide_eq_true_eq, decide_eq_true_eq] at h
  exact h.1
 | y :: r, t :: q, h, i + 1, h1, h2 => by
  rw [inAll, Bool.and_eq_true] at h
  exact inAll_get p r q h.2 i (by simpa using h1) (by simpa using h2)
 | [], _, _, i, h1, _ => by simp at h1
 | _ :: _, [], _, i, _, h2 => by simp at h2
def chE (p : Plant) : List Step → List (List Int) → Int
 | x :: q, ts :: r => if ts.length ≠ x.strokes.length then 8 else if inAll p x.strokes ts = true then chE p q r else 2
 | _, _ => 0
theorem ch_loop2 (p : Plant) (times : List (List Int)) (i1 : Int) (x : Step) (ts : List Int) (hts : at? times i1 = some ts) (hx : StOk p x.strokes) (hl : x.strokes.length ≤ 1000) (K : Option Int) : ∀ (r pre : List Stroke) (q tpre : List Int), x.strokes = pre ++ r → ts = tpre ++ q → pre.length = tpre.length → r.length = q.length →
 ref17_Chosen_loop2 p times i1 K x (r.length + 1) (pre.length : Int) = if inAll p r q = true then K else some 2
 | [], pre, [], tpre, e, e2, hp, hr => by rw [ref17_Chosen_loop2, end_mid e, if_neg (by simp), inAll, if_pos rfl]; simp
 | y :: r, pre, t :: q, tpre, e, e2, hp, hr => by
  obtain ⟨h1, h2, h3, h4, h5⟩ := step_mid e (by omega)
  have hy := hx y (by rw [e]; simp)
  have ht : at? ts (pre.length : Int) = some t := by rw [e2, hp]; exact at?_mid
  have ih := ch_loop2 p times i1 x ts hts hx hl K r (pre ++ [y]) q (tpre ++ [t]) h4 (by rw [e2, mid_cons]) (by simp [hp]) (by simpa using hr)
  rw [List.length_cons, ref17_Chosen_loop2, h1, if_pos rfl, h2, Option.bind_some, rway_eq17 hy.1 hy.2, Option.bind_some, hts, Option.bind_some, ht, Option.bind_some, ref03_Has, Option.bind_some, h3, ih, inAll]
  cases hb : (decide (t ≥ (wayOf p y).low) && decide (t ≤ (wayOf p y).high)) <;> simp
 | [], _, _ :: _, _, _, _, _, h => by simp at h
 | _ :: _, _, [], _, _, _, _, h => by simp at h
theorem ch_loop1 (s : Sequence) (p : Plant) (times : List (List Int)) (hS : ∀ x ∈ s.steps, StepOk p x) (hl : s.steps.length ≤ 100) : ∀ (q pre : List Step) (r tpre : List (List Int)), s.steps = pre ++ q → times = tpre ++ r → pre.length = tpre.length → q.length = r.length →
 ref17_Chosen_loop1 s times (some 0) p (r.length + 1) (tpre.length : Int) = some (chE p q r)
 | [], pre, [], tpre, e, e2, hp, hr => by rw [ref17_Chosen_loop1, end_mid e2, if_neg (by simp)]; rfl
 | x :: q, pre, ts :: r, tpre, e, e2, hp, hr => by
  have hlen : s.steps.length = pre.length + (q.length + 1) := by rw [e]; simp
  have hlen2 : times.length = tpre.length + (r.length + 1) := by rw [e2]; simp
  have hrl : q.length = r.length := by simpa using hr
  obtain ⟨h1, h2, h3, h4, h5⟩ := step_mid e2 (by omega)
  obtain ⟨hx, hxl, w0, w1⟩ := hS x (by rw [e]; simp)
  have hs : at? s.steps (tpre.length : Int) = some x := by rw [e, ← hp]; exact at?_mid
  have ih := ch_loop1 s p times hS hl q (pre ++ [x]) r (tpre ++ [ts]) (by rw [e, mid_cons]) h4 (by simp [hp]) hrl
  rw [List.length_cons, ref17_Chosen_loop1, h1, if_pos rfl, joinK, hs, Option.bind_some, h2, Option.bind_some, h3, ih, chE]
  by_cases hq : ts.length = x.strokes.length
  · have hn : ¬ ts.length ≠ x.strokes.length := fun z => z hq
    rw [if_neg (by simp; omega), if_neg hn, fuel0]
    refine (ch_loop2 p times _ x ts h2 hx hxl _ x.strokes [] ts [] rfl rfl rfl hq.symm).trans ?_
    split <;> rfl
  · rw [if_pos (by simp; omega), if_pos hq]
 | [], _, _ :: _, _, _, _, _, h => by simp at h
 | _ :: _, _, [], _, _, _, _, h => by simp at h
theorem chosen_eq (s : Sequence) (p : Plant) (times : List (List Int)) (hS : ∀ x ∈ s.steps, StepOk p x) (hl : s.steps.length ≤ 100) : ref17_Chosen s p times = some (if times.length ≠ s.steps.length then 8 else chE p s.steps times) := by
 by_cases h : times.length = s.steps.length
 · have hn : ¬ times.length ≠ s.steps.length := fun z => z h
   rw [ref17_Chosen, if_neg (by simp; omega), if_neg hn, joinK, fuel0]
   exact ch_loop1 s p times hS hl s.steps [] times [] rfl rfl rfl h.symm
 · rw [ref17_Chosen, if_pos (by simp; omega), if_pos h]
def durs : List Step → List (List Int) → List Int
 | x :: q, ts :: r => (mxa (fun n => n) 0 ts + x.wait) :: durs q r
 | _, _ => []
def endsL : Int → List Int → List Int
 | _, [] => []
 | n, d :: r => (n + d) :: endsL (n + d) r
theorem endsL_len : ∀ (r : List Int) (n : Int), (endsL n r).length = r.length
 | [], _ => rfl
 | d :: r, n => by rw [endsL, List.length_cons, endsL_len r, List.length_cons]
theorem endsL_last : ∀ (r : List Int) (n : Int), r ≠ [] → (endsL n r).getLast? = some (n + r.sum)
 | [], _, h => absurd rfl h
 | [d], n, _ => by simp [endsL]
 | d :: e :: r, n, _ => by
  rw [endsL, endsL, List.getLast?_cons_cons, ← endsL, endsL_last (e :: r) (n + d) (by simp)]
  have e3 : (d :: e :: r).sum = d + (e :: r).sum := List.sum_cons
  rw [e3]
  congr 1
  omega
theorem durs_len : ∀ (q : List Step) (r : List (List Int)), q.length = r.length → (durs q r).length = q.length
 | [], [], _ => rfl
 | x :: q, ts :: r, h => by rw [durs, List.length_cons, durs_len q r (by simpa using h), List.length_cons]
 | [], _ :: _, h => by simp at h
 | _ :: _, [], h => by simp at h
theorem dur_ok {p : Plant} (hP : PlantOk p) {x : Step} (hx : StepOk p x) {ts : List Int} (hl : ts.length = x.strokes.length) (h : inAll p x.strokes ts = true) : mvLo p x ≤ mxa (fun n => n) 0 ts ∧ mxa (fun n => n) 0 ts ≤ mvHi p x :=
 ⟨mxa_mono _ _ _ _ _ _ hl.symm (Int.le_refl _) fun i h1 h2 => (inAll_get p _ _ h i h1 h2).1, mxa_mono _ _ _ _ _ _ hl (Int.le_refl _) fun i h1 h2 => (inAll_get p _ _ h i h2 h1).2⟩
theorem durs_ok {p : Plant} (hP : PlantOk p) : ∀ (q : List Step) (r : List (List Int)), q.length = r.length → (∀ x ∈ q, StepOk p x) → chE p q r = 0 → endLo p q ≤ (durs q r).sum ∧ (durs q r).sum ≤ endHi p q ∧ ∀ d ∈ durs q r, 0 ≤ d
 | [], [], _, _, _ => by simp [endLo, endHi, durs]
 | x :: q, ts :: r, h, hS, hc => by
  rw [chE] at hc
  split at hc
  · cases hc
  · rename_i hq
    split at hc
    · rename_i hi
      obtain ⟨a, b, c⟩ := durs_ok hP q r (by simpa using h) (fun y hy => hS y (List.mem_cons_of_mem _ hy)) hc
      have hx := hS x (List.mem_cons_self ..)
      obtain ⟨d, e⟩ := dur_ok hP hx (Decidable.not_not.1 hq) hi
      obtain ⟨f, g, k⟩ := mv_ok hP hx.1
      have e1 : endLo p (x :: q) = mvLo p x + x.wait + endLo p q := by simp [endLo]
      have e2 : endHi p (x :: q) = mvHi p x + x.wait + endHi p q := by simp [endHi]
      rw [durs, List.sum_cons, e1, e2]
      refine ⟨by omega, by omega, fun z hz => ?_⟩
      rcases List.mem_cons.1 hz with rfl | hz
      · have := hx.2.2.1
        omega
      · exact c z hz
    · cases hc
 | [], _ :: _, h, _, _ => by simp at h
 | _ :: _, [], h, _, _ => by simp at h
theorem most_loop (l : List Int) (hl : l.length ≤ 1000) : ∀ (r pre : List Int) (a : Int), l = pre ++ r → schedule_most_int_schedule_Run_1_loop1 l (fun i3 => some i3) (r.length + 1) a (pre.length : Int) = some (mxa (fun n => n) a r)
 | [], pre, a, e => by rw [schedule_most_int_schedule_Run_1_loop1, end_mid e, if_neg (by simp)]; rfl
 | y :: r, pre, a, e => by
  obtain ⟨h1, h2, h3, h4, h5⟩ := step_mid e (by omega)
  rw [List.length_cons, schedule_most_int_schedule_Run_1_loop1, h1, if_pos rfl, h2, Option.bind_some, h3, most_loop l hl r (pre ++ [y]) _ h4, mxa]
theorem most_eq (l : List Int) (hl : l.length ≤ 1000) : schedule_most_int_schedule_Run_1 l = some (mxa (fun n => n) 0 l) := by
 rw [schedule_most_int_schedule_Run_1, joinK, fuel0]
 exact most_loop l hl l [] 0 rfl
theorem run_loop2 (p : Plant) (x : Step) (ts : List Int) (hx : StOk p x.strokes) (hl : ts.length ≤ 1000) (K : Option (List Int × Int)) : ∀ (q tpre : List Int) (r pre : List Stroke), x.strokes = pre ++ r → ts = tpre ++ q → pre.length = tpre.length → r.length = q.length → inAll p r q = true →
 schedule_Run_loop2 p x K ts (q.length + 1) (tpre.length : Int) = K
 | [], tpre, [], pre, e, e2, hp, hr, hi => by rw [schedule_Run_loop2, end_mid e2, if_neg (by simp)]
 | t :: q, tpre, y :: r, pre, e, e2, hp, hr, hi => by
  obtain ⟨h1, h2, h3, h4, h5⟩ := step_mid e2 (by omega)
  have hy := hx y (by rw [e]; simp)
  have hs : at? x.strokes (tpre.length : Int) = some y := by rw [e, ← hp]; exact at?_mid
  rw [inAll, Bool.and_eq_true, Bool.and_eq_true, decide_eq_true_eq, decide_eq_true_eq] at hi
  have ih := run_loop2 p x ts hx hl K q (tpre ++ [t]) r (pre ++ [y]) (by rw [e, mid_cons]) h4 (by simp [hp]) (by simpa using hr) hi.2
  rw [List.length_cons, schedule_Run_loop2, h1, if_pos rfl, h2, Option.bind_some, joinK, hs, Option.bind_some, lway_eq17 hy.1 hy.2, Option.bind_some]
  dsimp only
  rw [if_neg (by rw [Bool.or_eq_true, decide_eq_true_eq, decide_eq_true_eq]; omega), h3, ih]
 | [], _, _ :: _, _, _, _, _, h, _ => by simp at h
 | _ :: _, _, [], _, _, _, _, h, _ => by simp at h
theorem run_loop1 (s : Sequence) (p : Plant) (times : List (List Int)) (hP : PlantOk p) (hS : ∀ x ∈ s.steps, StepOk p x) (hl : s.steps.length ≤ 100) (K : List Int → Option (List Int × Int)) : ∀ (q pre : List Step) (r tpre : List (List Int)) (now : Int) (acc : List Int), s.steps = pre ++ q → times = tpre ++ r → pre.length = tpre.length → q.length = r.length → chE p q r = 0 → 0 ≤ now → now ≤ 2000000 * pre.length → acc.length = pre.length →
 schedule_Run_loop1 s times K p (q.length + 1) now (pre.length : Int) acc = K (acc ++ endsL now (durs q r))
 | [], pre, [], tpre, now, acc, e, e2, hp, hr, hc, n0, n1, ha => by rw [schedule_Run_loop1, end_mid e, if_neg (by simp)]; simp [durs, endsL]
 | x :: q, pre, ts :: r, tpre, now, acc, e, e2, hp, hr, hc, n0, n1, ha => by
  obtain ⟨h1, h2, h3, h4, h5⟩ := step_mid e (by omega)
  have hx := hS x (by rw [e]; simp)
  have ht : at? times (pre.length : Int) = some ts := by rw [e2, hp]; exact at?_mid
  rw [chE] at hc
  split at hc
  · cases hc
  · rename_i hq
    have hq := Decidable.not_not.1 hq
    split at hc
    · rename_i hi
      obtain ⟨d, f⟩ := dur_ok hP hx hq hi
      obtain ⟨g, k, k2⟩ := mv_ok hP hx.1
      obtain ⟨_, hxl, w0, w1⟩ := hx
      have hpl : (pre.length : Int) ≤ 100 := by omega
      have v1 : IntKind.wrap .i64 (mxa (fun n => n) 0 ts + x.wait) = mxa (fun n => n) 0 ts + x.wait := wrap64 (by omega) (by omega)
      have v2 : IntKind.wrap .i64 (now + (mxa (fun n => n) 0 ts + x.wait)) = now + (mxa (fun n => n) 0 ts + x.wait) := wrap64 (by omega) (by omega)
      have ih := run_loop1 s p times hP hS hl K q (pre ++ [x]) r (tpre ++ [ts]) (now + (mxa (fun n => n) 0 ts + x.wait)) (acc ++ [now + (mxa (fun n => n) 0 ts + x.wait)]) h4 (by rw [e2, mid_cons]) (by simp [hp]) (by simpa using hr) hc (by omega) (by simp; omega) (by simp [ha])
      rw [List.length_cons, schedule_Run_loop1, h1, if_pos rfl, h2, ht]
      unfold joinK
      dsimp only
      rw [Option.bind_some, Option.bind_some, if_neg (by simp; omega), Option.bind_some, fuel0]
      refine (run_loop2 p x ts (hS x (by rw [e]; simp)).1 (by omega) _ ts [] x.strokes [] rfl rfl rfl hq.symm hi).trans ?_
      rw [Option.bind_some, most_eq ts (by omega), Option.bind_some, v1, v2, appO_ok (by simp only [List.length_cons, List.length_nil]; omega) (by decide), Option.bind_some, h3, ih, durs, endsL]
      simp
    · cases hc
 | [], _, _ :: _, _, _, _, _, _, _, h, _, _, _, _ => by simp at h
 | _ :: _, _, [], _, _, _, _, _, _, h, _, _, _, _ => by simp at h
theorem run_eq17 (s : Sequence) (p : Plant) (times : List (List Int)) (h : chk17 s p = 0) (hl : times.length = s.steps.length) (hc : chE p s.steps times = 0) : schedule_Run s p times = some (endsL 0 (durs s.steps times), 0) := by
 obtain ⟨h0, R, hP, hS, _⟩ := chk17_zero h
 have hl1 := R.l1
 rw [schedule_Run, lchk17 s p (by have := hP.1; omega), h, Option.bind_some, if_neg (by simp), if_neg (by simp; omega), joinK, fuel0]
 exact run_loop1 s p times hP hS (by omega) _ s.steps [] times [] 0 [] rfl rfl rfl hl.symm hc (by omega) (by simp) rfl
theorem wd20 {t : Int} (h0 : 0 ≤ t) : wdI 20 t ≤ t + 1 ∧ Int.tdiv (t + 20 - 1) 20 = (t + 19) / 20 := by
 have e : Int.tdiv (t + 20 - 1) 20 = (t + 19) / 20 := by rw [Int.tdiv_eq_ediv_of_nonneg (by omega), show t + 20 - 1 = t + 19 by omega]
 refine ⟨?_, e⟩
 unfold wdI
 rw [e]
 split <;> omega
theorem wsum20 : ∀ ds : List Int, (∀ d ∈ ds, 0 ≤ d) → wsum (ds.map (wdI 20)) ≤ ds.sum + 2 * ds.length
 | [], _ => by simp [wsum]
 | d :: ds, h => by
  have ih := wsum20 ds fun z hz => h z (List.mem_cons_of_mem _ hz)
  have := (wd20 (h d (List.mem_cons_self ..))).1
  have e : wsum ((d :: ds).map (wdI 20)) = (wdI 20 d + 1) + wsum (ds.map (wdI 20)) := by simp [wsum]
  rw [e, List.sum_cons, List.length_cons]
  omega
theorem le_sum : ∀ {ds : List Int}, (∀ d ∈ ds, 0 ≤ d) → 0 ≤ ds.sum ∧ ∀ d ∈ ds, d ≤ ds.sum
 | [], _ => by simp
 | a :: ds, h => by
  obtain ⟨b, c⟩ := le_sum (ds := ds) fun z hz => h z (List.mem_cons_of_mem _ hz)
  have := h a (List.mem_cons_self ..)
  rw [List.sum_cons]
  refine ⟨by omega, fun d hd => ?_⟩
  rcases List.mem_cons.1 hd with rfl | hd
  · omega
  · have := c d hd; omega
theorem scale_back {s : Sequence} (h0 : checkE s = 0) {ds : List Int} (hlen : ds.length = s.steps.length) (hd : ∀ d ∈ ds, 0 ≤ d) (hsum : ds.sum ≤ 4000) (hn : ds.length ≤ 10) :
 ∃ L, diagram_Scale s ds 20 = some (L, 0) ∧ diagram_Unscale L = some (calm s, ds.map (wdI 20), 0) := by
 have R := checkE_zero h0
 have n0 := R.n0
 have n1 := R.n1
 have hcn : ¬ checkE s ≠ 0 := fun q => q h0
 have hlenn : ¬ ds.length ≠ s.steps.length := fun q => q hlen
 obtain ⟨hs0, hsd⟩ := le_sum hd
 have ht : ∀ x ∈ ds, 0 ≤ x ∧ x ≤ 1000000 := fun x hx => ⟨hd x hx, by have := hsd x hx; omega⟩
 have hbad : badU ds 20 = false := by
  unfold badU
  rw [Bool.or_eq_false_iff, List.any_eq_false]
  refine ⟨fun x hx => ?_, by decide⟩
  have := ht x hx
  simp [badT]
  omega
 have hbadn : ¬ badU ds 20 = true := by rw [hbad]; decide
 have hw := wsum20 ds hd
 have hs : ¬ 3 + wsum (ds.map (wdI 20)) > 4096 := by omega
 have hq := wds_ok (unit := 20) ht (by decide) (by decide)
 have hcc := calm_check h0
 have RC := checkE_zero hcc
 have hwl : (ds.map (wdI 20)).length = (calm s).steps.length := by simp [calm, hlen]
 have hb1 := unI_back RC hwl (fun c hc => (hq c hc).1)
 have hlines := calm_lines s (wAt (ds.map (wdI 20))) (fun _ => false) s.actuators.toNat
 have hact : (calm s).actuators = s.actuators := rfl
 rw [hact, hlines] at hb1
 have hst : (calm s).steps.map still = (calm s).steps := still_of (fun t ht => by
  obtain ⟨x, _, rfl⟩ := List.mem_map.1 ht
  rfl)
 rw [hst] at hb1
 refine ⟨linesW s (wAt (ds.map (wdI 20))) (fun _ => false) s.actuators.toNat, ?_, ?_⟩
 · rw [lscale_eq, scaleR, if_neg hcn, if_neg hlenn, if_neg hbadn, if_neg hs]
 · generalize hL : linesW s (wAt (ds.map (wdI 20))) (fun _ => false) s.actuators.toNat = L at *
   have hLl : (L.length : Int) = s.actuators := by rw [← hL, linesW_len]; omega
   have hseq : seqI L = calm s := by unfold seqI; rw [hb1, hLl]; rfl
   have hg : givenR L 6 = 0 := by
    unfold givenR
    rw [if_neg (by omega), if_neg]
    intro q
    obtain ⟨x, hx, hq2⟩ := List.any_eq_true.1 q
    simp only [decide_eq_true_eq] at hq2
    rw [← hL] at hx
    obtain ⟨i, _, rfl⟩ := List.mem_map.1 hx
    have hsw := sum_wAt (ds.map (wdI 20)) (fun c hc => (hq c hc).1) s.steps.length (by rw [List.length_map]; omega)
    rw [line_exact] at hq2
    omega
   have hgn : ¬ givenR L 6 ≠ 0 := fun q => q hg
   rw [lunscale_eq, if_neg hgn, hseq, hb1]
   dsimp only
   rw [if_pos ⟨hcc, hwl, by rw [hact, hlines]⟩]
theorem few14_loop (s : Sequence) (hl : s.steps.length ≤ 1000) : ∀ (r pre : List Step), s.steps = pre ++ r → ∃ b, ref14_Few_loop1 s (some true) (r.length + 1) (pre.length : Int) = some b
 | [], pre, e => ⟨true, by rw [ref14_Few_loop1, end_mid e, if_neg (by simp)]⟩
 | x :: r, pre, e => by
  obtain ⟨h1, h2, h3, h4, h5⟩ := step_mid e (by omega)
  obtain ⟨b, hb⟩ := few14_loop s hl r (pre ++ [x]) h4
  rw [List.length_cons, ref14_Few_loop1, h1, if_pos rfl, h2, Option.bind_some, h3, hb]
  split
  · exact ⟨false, rfl⟩
  · exact ⟨b, rfl⟩
theorem few17 (s : Sequence) (p : Plant) : ∃ b, ref17_Few s p = some b ∧ (b = true → p.travels.length ≤ 20) := by
 have h14 : ∃ b, ref14_Few s = some b := by
  unfold ref14_Few joinK
  by_cases h : (s.steps.length : Int) > 128
  · rw [if_pos (by simpa using h)]; exact ⟨false, rfl⟩
  · rw [if_neg (by simpa using h)]
    dsimp only
    rw [fuel0]
    exact few14_loop s (by omega) s.steps [] rfl
 obtain ⟨b, hb⟩ := h14
 rw [ref17_Few, hb, Option.bind_some, rcheck14]
 by_cases ht : (p.travels.length : Int) ≤ 20
 · cases b with
   | false => exact ⟨false, rfl, by simp⟩
   | true =>
    rw [decide_eq_true ht]
    by_cases hs : (s.steps.length : Int) ≤ 12
    · rw [decide_eq_true hs]; exact ⟨true, rfl, fun _ => by omega⟩
    · rw [decide_eq_false hs]; exact ⟨_, rfl, fun _ => by omega⟩
 · rw [decide_eq_false ht, Bool.and_false]
   exact ⟨false, rfl, by simp⟩
theorem diff_loop (r5 : List Int × Int) (hl : r5.1.length ≤ 1000) (K : List Int → Option Bool) : ∀ (ds pre acc : List Int) (now : Int), r5.1 = pre ++ endsL now ds → acc.length = pre.length → (∀ d ∈ ds, 0 ≤ d ∧ d ≤ 4000) → top_TopMotionsScale_loop1 r5 K (ds.length + 1) now (pre.length : Int) acc = K (acc ++ ds)
 | [], pre, acc, now, e, ha, hd => by
  rw [endsL] at e
  rw [top_TopMotionsScale_loop1, end_mid e, if_neg (by simp), List.append_nil]
 | d :: ds, pre, acc, now, e, ha, hd => by
  rw [endsL] at e
  obtain ⟨h1, h2, h3, h4, h5⟩ := step_mid e (by omega)
  have hd0 := hd d (List.mem_cons_self ..)
  have v : IntKind.wrap .i64 (now + d - now) = d := by rw [wrap64 (by omega) (by omega)]; omega
  have ih := diff_loop r5 hl K ds (pre ++ [now + d]) (acc ++ [d]) (now + d) h4 (by simp [ha]) (fun z hz => hd z (List.mem_cons_of_mem _ hz))
  rw [List.length_cons, top_TopMotionsScale_loop1, h1, if_pos rfl, h2, Option.bind_some, v, appO_ok (by simp only [List.length_cons, List.length_nil]; omega) (by decide), Option.bind_some, h3, ih]
  simp
theorem width_loop (l3 : List Int) (hl : l3.length ≤ 1000) (hd : ∀ d ∈ l3, 0 ≤ d ∧ d ≤ 4000) (r9 : Sequence × List Int × Int) (h9 : r9.2.1 = l3.map (wdI 20)) (K : Option Bool) : ∀ (r pre : List Int), l3 = pre ++ r → top_TopMotionsScale_loop2 l3 r9 K (r.length + 1) (pre.length : Int) = K
 | [], pre, e => by rw [top_TopMotionsScale_loop2, end_mid e, if_neg (by simp)]
 | x :: r, pre, e => by
  obtain ⟨h1, h2, h3, h4, h5⟩ := step_mid e (by omega)
  have hx := hd x (by rw [e]; simp)
  have h6 : at? r9.2.1 (pre.length : Int) = some (wdI 20 x) := by
   rw [h9, e, List.map_append, List.map_cons]
   have := at?_mid (pre := pre.map (wdI 20)) (x := wdI 20 x) (r := r.map (wdI 20))
   rwa [List.length_map] at this
  have hq := (wd20 hx.1).2
  have v1 : IntKind.wrap .i64 (x + 19) = x + 19 := wrap64 (by omega) (by omega)
  have v2 : Int.tdiv (x + 19) 20 = (x + 19) / 20 := Int.tdiv_eq_ediv_of_nonneg (by omega)
  have v3 : IntKind.wrap .i64 ((x + 19) / 20) = (x + 19) / 20 := wrap64 (by omega) (by omega)
  have hw : wdI 20 x = if (1 : Int) > (x + 19) / 20 then 1 else (x + 19) / 20 := by
   unfold wdI
   rw [hq]
   split <;> split <;> omega
  rw [List.length_cons, top_TopMotionsScale_loop2, h1, if_pos rfl, h2, Option.bind_some, h6, Option.bind_some, v1, v2, v3, ← hw, if_neg (by simp), h3]
  exact width_loop l3 hl hd r9 h9 K r (pre ++ [x]) h4
theorem law_MotionsScale (s : Sequence) (p : Plant) (times : List (List Int)) : top_TopMotionsScale s p times = some true := by
 obtain ⟨b, hb, hb2⟩ := few17 s p
 rw [top_TopMotionsScale, hb, Option.bind_some, runMotion_true]
 cases b with
 | false => rfl
 | true =>
  rw [if_neg (by simp), rchk17 s p (by have := hb2 rfl; omega), Option.bind_some, Option.bind_some]
  by_cases h : chk17 s p = 0
  · obtain ⟨h0, R, hP, hS, hH⟩ := chk17_zero h
    have hl1 := R.l1
    have c1 : (chk17 s p != 0) = false := by simpa using h
    rw [c1, Bool.false_or]
    by_cases h10 : (s.steps.length : Int) > 10
    · rw [decide_eq_true h10]
      rfl
    · rw [decide_eq_false h10, if_neg (by simp), chosen_eq s p times hS (by omega), Option.bind_some, Option.bind_some]
      by_cases hlen : times.length = s.steps.length
      · have hn : ¬ times.length ≠ s.steps.length := fun q => q hlen
        rw [if_neg hn]
        by_cases hc : chE p s.steps times = 0
        · obtain ⟨d1, d2, d3⟩ := durs_ok hP s.steps times hlen.symm hS hc
          have dl := durs_len s.steps times hlen.symm
          have hne : durs s.steps times ≠ [] := List.length_pos_iff.1 (by rw [dl]; exact List.length_pos_iff.2 R.l0)
          have el := endsL_len (durs s.steps times) 0
          have hlast := endsL_last (durs s.steps times) 0 hne
          rw [Int.zero_add] at hlast
          have hcy := cycle_eq17 s p h
          rw [if_neg (by simpa using hc), run_eq17 s p times h hlen hc, Option.bind_some, hcy, Option.bind_some]
          generalize durs s.steps times = ds at *
          have hat : at? (endsL 0 ds) (IntKind.wrap .i64 (((endsL 0 ds).length : Int) - 1)) = some ds.sum := by
           have hnl : endsL 0 ds ≠ [] := by
            intro q
            rw [q] at el
            exact hne (List.eq_nil_of_length_eq_zero (by rw [← el]; rfl))
           have := at?_last (pre := endsL 0 ds) (r := []) hnl (by omega)
           rw [List.append_nil] at this
           rw [this, hlast]
          have w0 : IntKind.wrap .i64 ((0 : Int) + 0) = 0 := by decide
          dsimp only
          rw [w0, if_neg (by simp; omega), hat, Option.bind_some, if_neg (by rw [Bool.or_eq_true, decide_eq_true_eq, decide_eq_true_eq]; omega)]
          by_cases h4 : ds.sum > 4000
          · rw [if_pos (by simpa using h4)]
            rfl
          · obtain ⟨_, hle⟩ := le_sum d3
            have hd : ∀ d ∈ ds, 0 ≤ d ∧ d ≤ 4000 := fun d q => ⟨d3 d q, by have := hle d q; omega⟩
            obtain ⟨L, k1, k2⟩ := scale_back h0 dl d3 (by omega) (by omega)
            rw [if_neg (by simpa using h4), joinK, fuel0, el]
            refine (diff_loop (endsL 0 ds, 0) (by show (endsL 0 ds).length ≤ 1000; omega) _ ds [] [] 0 rfl rfl hd).trans ?_
            rw [List.nil_append, k1, Option.bind_some, k2, Option.bind_some]
            dsimp only
            rw [w0, if_neg (by simp), joinK, fuel0]
            exact width_loop ds (by omega) hd (calm s, ds.map (wdI 20), 0) rfl _ ds [] rfl
        · rw [if_pos (by simpa using hc)]
          rfl
      · rw [if_pos hlen]
        rfl
  · have c1 : (chk17 s p != 0) = true := by simpa using h
    rw [c1]
    rfl
end Go.Proofs.YtkgijoddkibapaaGreatDoor.W
