/- The plain laws of diagrams, second part: lines and columns. No program in sight. -/
import Derived.Test.YtbckcjjffbgidaaGreatDoorLawN
set_option linter.unusedVariables false
set_option linter.unusedSimpArgs false
set_option linter.unnecessarySimpa false
set_option maxHeartbeats 2000000
namespace Go.Proofs.YtbckcjjffbgidaaGreatDoor.W
open Go Go.RowKit
def restB (b : Bool) : UInt8 := if b = true then 45 else 95
def begB (s : Sequence) (k i : Nat) : Bool := (beh s k)[i]?.getD false
def wayA (s : Sequence) (k i : Nat) : Int := wayS (i : Int) (stepAt s k).strokes
/-- the first byte of actuator i in step k -/
def fB (s : Sequence) (k i : Nat) : UInt8 := if wayA s k i = 1 then 47 else if wayA s k i = -1 then 92 else restB (begB s k i)
def sB (s : Sequence) (k i : Nat) : UInt8 := restB (begB s (k + 1) i)
theorem beg_get {s : Sequence} {k i : Nat} (h : i < s.actuators.toNat) : (beh s k)[i]? = some (begB s k i) := by
 have hl := beh_len s k
 rw [begB, List.getElem?_eq_getElem (by omega)]
 rfl
theorem beg_next {s : Sequence} (R : RightS s) {k i : Nat} (hk : k < s.steps.length) (h : i < s.actuators.toNat) :
 begB s (k + 1) i = if wayA s k i = 1 then true else if wayA s k i = -1 then false else begB s k i := by
 obtain ⟨_, hg, _⟩ := suits_next R hk
 have := setL_get (stepAt s k).strokes (-1) (beh s k) hg.asc i (by rw [beh_len]; exact h)
 rw [← beh_next hk, beg_get h, beg_get h] at this
 unfold wayA
 split at this
 · rename_i q; rw [if_pos q]; exact Option.some.inj this
 · rename_i q; rw [if_neg q]
   split at this
   · rename_i q2; rw [if_pos q2]; exact Option.some.inj this
   · rename_i q2; rw [if_neg q2]; exact Option.some.inj this
theorem cell_eq {s : Sequence} (R : RightS s) {k i : Nat} (hk : k < s.steps.length) (h : i < s.actuators.toNat) : cellAt s k i = ⟨((fB s k i).toNat : Int), ((sB s k i).toNat : Int)⟩ := by
 obtain ⟨_, hg, _⟩ := suits_next R hk
 have := rowS_get (stepAt s k).strokes (-1) ((beh s k).map rc) hg.asc i (by rw [List.length_map, beh_len]; exact h)
 rw [cellAt, rowAt, this, sB, beg_next R hk h, fB, List.getElem?_map, beg_get h]
 show Option.getD (if wayA s k i = 1 then some (gc true) else if wayA s k i = -1 then some (gc false) else some (rc (begB s k i))) _ = _
 by_cases q1 : wayA s k i = 1
 · rw [if_pos q1, if_pos q1, if_pos q1]; rfl
 · rw [if_neg q1, if_neg q1, if_neg q1]
   by_cases q2 : wayA s k i = -1
   · rw [if_pos q2, if_pos q2, if_pos q2]; rfl
   · rw [if_neg q2, if_neg q2, if_neg q2]
     cases begB s k i <;> rfl
theorem col_at {s : Sequence} (R : RightS s) {k i : Nat} (hk : k < s.steps.length) (h : i < s.actuators.toNat) : at? (colAt s i s.steps.length) (k : Int) = some ⟨((fB s k i).toNat : Int), ((sB s k i).toNat : Int)⟩ := by
 rw [at_nat (by rw [colAt_len]; exact hk)]
 simp [colAt, cell_eq R hk h]
theorem cells_at {s : Sequence} {i : Nat} (h : i < s.actuators.toNat) : at? (cellsS s) (i : Int) = some (colAt s i s.steps.length) := by
 rw [at_nat (by rw [cellsS]; simpa using h)]
 simp [cellsS]
theorem cellsS_len (s : Sequence) : (cellsS s).length = s.actuators.toNat := by simp [cellsS]
theorem byte_back (b : UInt8) : (decide (0 ≤ ((b.toNat : Nat) : Int)) && decide (((b.toNat : Nat) : Int) ≤ 255)) = true ∧ UInt8.ofNat (Int.toNat ((b.toNat : Nat) : Int)) = b := by
 have := b.toNat_lt
 constructor
 · simp; omega
 · simp
/-! ### the reference's bytes -/
theorem rfirst_eq {s : Sequence} (R : RightS s) {k i : Nat} (hk : k < s.steps.length) (h : i < s.actuators.toNat) : ref16_First s (i : Int) (k : Int) = some [fB s k i] := by
 obtain ⟨_, hg, _⟩ := suits_next R hk
 have hf := hg.few
 have hb := beh_len s k
 unfold ref16_First
 rw [at_nat hk, Option.bind_some, ← stepAt_eq hk, rway_eq _ _ (by omega), Option.bind_some, fB]
 show (if (wayA s k i == 1) = true then _ else if (wayA s k i == -1) = true then _ else _) = _
 by_cases q1 : wayA s k i = 1
 · rw [if_pos (by rw [q1]; rfl), if_pos q1]
 · rw [if_neg (by simpa using q1), if_neg q1]
   by_cases q2 : wayA s k i = -1
   · rw [if_pos (by rw [q2]; rfl), if_pos q2]
   · rw [if_neg (by simpa using q2), if_neg q2, rbehind_eq s R k (by omega), Option.bind_some]
     have : at? (beh s k) (i : Int) = some (begB s k i) := by rw [← beg_get h]; unfold at?; rw [if_pos (by omega)]; simp
     rw [this, Option.bind_some]
     cases begB s k i <;> rfl
theorem rsec_eq {s : Sequence} (R : RightS s) {k i : Nat} (hk : k ≤ s.steps.length) (h : i < s.actuators.toNat) : (ref14_Behind s (k : Int)).bind (fun r => (at? r (i : Int)).bind fun x => ref16_rest x) = some [restB (begB s k i)] := by
 rw [rbehind_eq s R k hk, Option.bind_some]
 have : at? (beh s k) (i : Int) = some (begB s k i) := by rw [← beg_get h]; unfold at?; rw [if_pos (by omega)]; simp
 rw [this, Option.bind_some]
 cases begB s k i <;> rfl
theorem name_eq {i : Nat} (h : i < 6) : ref16_Name (i : Int) = some [UInt8.ofNat (65 + i)] := by
 have := cut_at ⟨i, h⟩
 unfold ref16_Name
 dsimp only at this
 rw [this]
 rfl
theorem letter_eq {i : Nat} (h : i < 6) : diagram_letter (i : Int) = some [UInt8.ofNat (65 + i)] := by
 have := enc_at ⟨i, h⟩
 unfold diagram_letter
 dsimp only at this
 rw [this]
/-! ### the lines of a diagram -/
def blk (s : Sequence) (i : Nat) (w : Nat → Nat) (mk : Nat → Bool) (k : Nat) : List UInt8 := (if mk k = true then [124] else []) ++ List.replicate (w k) (fB s k i) ++ [sB s k i]
def lineW (s : Sequence) (i : Nat) (w : Nat → Nat) (mk : Nat → Bool) (k : Nat) : List UInt8 := [UInt8.ofNat (65 + i), 32, 95] ++ (List.range k).flatMap (blk s i w mk)
def linesW (s : Sequence) (w : Nat → Nat) (mk : Nat → Bool) (n : Nat) : List (List UInt8) := (List.range n).map fun i => lineW s i w mk s.steps.length
theorem lineW_succ (s : Sequence) (i : Nat) (w : Nat → Nat) (mk : Nat → Bool) (k : Nat) : lineW s i w mk (k + 1) = lineW s i w mk k ++ blk s i w mk k := by
 simp [lineW, List.range_succ, List.flatMap_append]
theorem linesW_succ (s : Sequence) (w : Nat → Nat) (mk : Nat → Bool) (n : Nat) : linesW s w mk (n + 1) = linesW s w mk n ++ [lineW s n w mk s.steps.length] := by simp [linesW, List.range_succ]
theorem linesW_len (s : Sequence) (w : Nat → Nat) (mk : Nat → Bool) (n : Nat) : (linesW s w mk n).length = n := by simp [linesW]
def sumW (w : Nat → Nat) : Nat → Nat
 | 0 => 0
 | k + 1 => sumW w k + w k
theorem blk_len (s : Sequence) (i : Nat) (w : Nat → Nat) (mk : Nat → Bool) (k : Nat) : (blk s i w mk k).length ≤ w k + 2 := by
 unfold blk
 split <;> simp
theorem line_len16 (s : Sequence) (i : Nat) (w : Nat → Nat) (mk : Nat → Bool) : ∀ k, (lineW s i w mk k).length ≤ 3 + 2 * k + sumW w k
 | 0 => by simp [lineW, sumW]
 | k + 1 => by
  have h1 := blk_len s i w mk k
  have h2 := line_len16 s i w mk k
  rw [lineW_succ, List.length_append, sumW]
  omega
theorem sum_one (k : Nat) : sumW (fun _ => 1) k = k := by
 induction k with
 | zero => rfl
 | succ k ih => rw [sumW, ih]
/-! ### drawing -/
theorem ldraw2 (s : Sequence) (R : RightS s) (i : Nat) (hi : i < s.actuators.toNat) (K : List UInt8 → Option (List (List UInt8))) : ∀ (m k : Nat), k + m = s.steps.length →
 diagram_draw_loop2 (colAt s i s.steps.length) K (m + 1) (k : Int) (lineW s i (fun _ => 1) (fun _ => false) k) = K (lineW s i (fun _ => 1) (fun _ => false) s.steps.length)
 | 0, k, h => by
  rw [diagram_draw_loop2, if_neg (by rw [decide_eq_true_eq, colAt_len]; omega), show k = s.steps.length by omega]
 | m + 1, k, h => by
  have hk : k < s.steps.length := by omega
  have hl1 := R.l1
  have ih := ldraw2 s R i hi K m (k + 1) (by omega)
  have hlen := line_len16 s i (fun _ => 1) (fun _ => false) k
  rw [sum_one] at hlen
  obtain ⟨g1, b1⟩ := byte_back (fB s k i)
  obtain ⟨g2, b2⟩ := byte_back (sB s k i)
  rw [diagram_draw_loop2, if_pos (by rw [decide_eq_true_eq, colAt_len]; omega), col_at R hk hi, Option.bind_some]
  unfold guardO
  dsimp only
  rw [if_pos g1, Option.bind_some, b1, appO_ok (by simp; omega) (by decide), Option.bind_some, if_pos g2, Option.bind_some, b2, appO_ok (by simp; omega) (by decide), Option.bind_some, wrapN k (by omega), ← ih, lineW_succ]
  congr 1
  simp [blk]
theorem ldraw1 (s : Sequence) (R : RightS s) (K : List (List UInt8) → Option (List (List UInt8))) : ∀ (m i : Nat), i + m = s.actuators.toNat →
 diagram_draw_loop1 K (cellsS s) (m + 1) (i : Int) (linesW s (fun _ => 1) (fun _ => false) i) = K (linesW s (fun _ => 1) (fun _ => false) s.actuators.toNat)
 | 0, i, h => by
  rw [diagram_draw_loop1, if_neg (by rw [decide_eq_true_eq, cellsS_len]; omega), show i = s.actuators.toNat by omega]
 | m + 1, i, h => by
  have hi : i < s.actuators.toNat := by omega
  have hl1 := R.l1
  have n1 := R.n1
  have ih := ldraw1 s R K m (i + 1) (by omega)
  rw [diagram_draw_loop1, if_pos (by rw [decide_eq_true_eq, cellsS_len]; omega)]
  unfold joinK
  dsimp only
  rw [cells_at hi, Option.bind_some, letter_eq (by omega), Option.bind_some, catO_small (by simp), Option.bind_some, appO_ok (by simp) (by decide), Option.bind_some, fuel0, colAt_len]
  refine Eq.trans (ldraw2 s R i hi _ s.steps.length 0 (by omega)) ?_
  rw [appO_ok (by simp [linesW_len]; omega) (by decide), Option.bind_some, wrapN i (by omega), ← ih, linesW_succ]
def waitsB (s : Sequence) : Bool := s.steps.any fun x => x.wait != 0
theorem lhaswait (l : List Step) (hl : l.length ≤ 1000) : ∀ (r pre : List Step), l = pre ++ r → ∃ i, slices_IndexFunc_api_Stepapi_Step_diagram_draw_1_loop1 l (some (-1)) (r.length + 1) (pre.length : Int) = some i ∧ decide (i ≥ 0) = r.any fun x => x.wait != 0
 | [], pre, e => by
  rw [slices_IndexFunc_api_Stepapi_Step_diagram_draw_1_loop1, end_mid e]
  exact ⟨-1, rfl, rfl⟩
 | y :: r, pre, e => by
  obtain ⟨h1, h2, h3, h4, h5⟩ := step_mid e (by omega)
  obtain ⟨i, ih, k⟩ := lhaswait l hl r (pre ++ [y]) h4
  rw [slices_IndexFunc_api_Stepapi_Step_diagram_draw_1_loop1, h1, if_pos rfl, h2, Option.bind_some, h3, List.length_cons, ih, List.any_cons]
  cases hv : (y.wait != 0)
  · exact ⟨i, by rw [if_neg (by decide)], by rw [k]; rfl⟩
  · exact ⟨(pre.length : Int), by rw [if_pos rfl], by simp⟩
theorem lhaswait_eq (s : Sequence) (hl : s.steps.length ≤ 1000) : slices_ContainsFunc_api_Stepapi_Step_diagram_draw_1 s.steps = some (waitsB s) := by
 obtain ⟨i, h, k⟩ := lhaswait s.steps hl s.steps [] rfl
 unfold slices_ContainsFunc_api_Stepapi_Step_diagram_draw_1 slices_IndexFunc_api_Stepapi_Step_diagram_draw_1 joinK
 dsimp only
 rw [fuel0]
 refine Eq.trans (congrArg (fun o => Option.bind o _) h) ?_
 rw [waitsB, ← k]
 rfl
/-- the line of delays -/
def lineT (l : List Step) : List UInt8 := 84 :: l.flatMap fun x => 32 :: decT x.wait
theorem lineT_snoc (l : List Step) (x : Step) : lineT (l ++ [x]) = lineT l ++ (32 :: decT x.wait) := by simp [lineT]
theorem decT_len {n : Int} (h0 : 0 ≤ n) (h : n ≤ 1000000) : (decT n).length ≤ 7 := dec7 (by omega)
theorem lineT_len : ∀ (l : List Step), (∀ x ∈ l, 0 ≤ x.wait ∧ x.wait ≤ 1000000) → (lineT l).length ≤ 1 + 8 * l.length
 | [], _ => by simp [lineT]
 | x :: l, h => by
  have h1 := lineT_len l (fun y hy => h y (by simp [hy]))
  have h2 := decT_len (h x (by simp)).1 (h x (by simp)).2
  simp only [lineT, List.flatMap_cons, List.length_cons, List.length_append] at h1 ⊢
  omega
theorem ldraw3 (s : Sequence) (K : List UInt8 → Option (List (List UInt8))) (hl : s.steps.length ≤ 1000) (hw : ∀ x ∈ s.steps, 0 ≤ x.wait ∧ x.wait ≤ 1000000) : ∀ (r pre : List Step), s.steps = pre ++ r →
 diagram_draw_loop3 s K (r.length + 1) (pre.length : Int) (lineT pre) = K (lineT s.steps)
 | [], pre, e => by
  rw [diagram_draw_loop3, end_mid e, if_neg (by simp), e]
  simp
 | y :: r, pre, e => by
  obtain ⟨h1, h2, h3, h4, h5⟩ := step_mid e (by omega)
  have hy := hw y (by rw [e]; simp)
  have ih := ldraw3 s K hl hw r (pre ++ [y]) h4
  have q1 := decT_len hy.1 hy.2
  have q2 := lineT_len pre (fun z hz => hw z (by rw [e]; simp [hz]))
  rw [diagram_draw_loop3, h1, if_pos rfl, h2, Option.bind_some, itoa_eq hy.1 hy.2, Option.bind_some, catO_small (by simp; omega), Option.bind_some, appO_ok (by simp; omega) (by decide), Option.bind_some, h3, List.length_cons, ← ih, lineT_snoc]
  rfl
def drawS (s : Sequence) : List (List UInt8) := linesW s (fun _ => 1) (fun _ => false) s.actuators.toNat ++ (if waitsB s = true then [lineT s.steps] else [])
theorem right_wait {s : Sequence} (R : RightS s) : ∀ x ∈ s.steps, 0 ≤ x.wait ∧ x.wait ≤ 1000000 := fun x hx => ⟨(R.good x hx).1.w0, (R.good x hx).1.w1⟩
theorem ldraw_eq (s : Sequence) (R : RightS s) : diagram_draw s = some (drawS s) := by
 have hl1 := R.l1
 have n1 := R.n1
 unfold diagram_draw joinK
 dsimp only
 rw [cells_eq s R, Option.bind_some, fuel0, cellsS_len]
 refine Eq.trans (ldraw1 s R _ s.actuators.toNat 0 (by omega)) ?_
 rw [lhaswait_eq s (by omega), Option.bind_some, drawS]
 cases hw : waitsB s
 · rw [if_neg (by decide), if_neg (by decide), List.append_nil]
 · rw [if_pos rfl, if_pos rfl, appO_ok (by simp) (by decide), Option.bind_some]
   refine Eq.trans (ldraw3 s _ (by omega) (right_wait R) s.steps [] rfl) ?_
   rw [appO_ok (by rw [linesW_len]; simp; omega) (by decide), Option.bind_some]
end Go.Proofs.YtbckcjjffbgidaaGreatDoor.W
