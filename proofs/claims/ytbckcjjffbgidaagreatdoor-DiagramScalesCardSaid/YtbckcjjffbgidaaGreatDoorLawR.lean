/- The plain laws of diagrams, fifth part: Columns, Switches. No program in sight. -/
import Derived.Test.YtbckcjjffbgidaaGreatDoorLawQ
set_option linter.unusedVariables false
set_option linter.unusedSimpArgs false
set_option linter.unnecessarySimpa false
set_option maxHeartbeats 2000000
namespace Go.Proofs.YtbckcjjffbgidaaGreatDoor.W
open Go Go.RowKit
theorem part_takeW {α : Type} {n : Int} {l z : List α} (h : l.length = n.toNat) (h0 : 0 ≤ n) : part? (l ++ z) 0 n = some l := by
 unfold part?
 rw [if_pos ⟨by omega, h0, by simp; omega⟩]
 simp [← h]
theorem way_of_mem : ∀ {r : List Stroke} {last : Int}, Asc last r → ∀ y ∈ r, wayS y.actuator r = if y.out = true then 1 else -1
 | [], _, _, y, hy => by simp at hy
 | z :: r, last, h, y, hy => by
  obtain ⟨h0, h1, h2, h3⟩ := h
  rw [wayS]
  rcases List.mem_cons.1 hy with rfl | hy
  · rw [if_pos rfl]
  · have := (asc_mem h3 y hy).2.2
    rw [if_neg (by omega)]
    exact way_of_mem h3 y hy
theorem asci_of_asc : ∀ {r : List Stroke} {last lo : Int}, Asc last r → 0 ≤ lo → lo ≤ last + 1 → AscI lo (r.map Stroke.actuator)
 | [], _, _, _, _, _ => trivial
 | y :: r, last, lo, h, h0, hlo => by
  obtain ⟨g0, g1, g2, g3⟩ := h
  exact ⟨by omega, asci_of_asc g3 (by omega) (by omega)⟩
theorem fB_up (s : Sequence) (k i : Nat) : (fB s k i == 47) = (wayA s k i == 1) := by
 unfold fB restB
 by_cases h : wayA s k i = 1
 · rw [if_pos h, h]; rfl
 · have : (wayA s k i == 1) = false := by simpa using h
   rw [if_neg h, this]
   split
   · rfl
   · split <;> rfl
theorem fB_down (s : Sequence) (k i : Nat) : (fB s k i == 92) = (wayA s k i == -1) := by
 unfold fB restB
 by_cases h : wayA s k i = 1
 · rw [if_pos h, h]; rfl
 · rw [if_neg h]
   by_cases h2 : wayA s k i = -1
   · rw [if_pos h2, h2]; rfl
   · have : (wayA s k i == -1) = false := by simpa using h2
     rw [if_neg h2, this]
     split <;> rfl
theorem col_counts (s : Sequence) (k : Nat) : ∀ n, (colB s k n).count 47 + (colB s k n).count 92 = (List.range n).countP fun i => wayA s k i != 0
 | 0 => by simp [colB]
 | n + 1 => by
  have ih := col_counts s k n
  have h1 := fB_up s k n
  have h2 := fB_down s k n
  rw [colB_succ, List.count_append, List.count_append, List.range_succ, List.countP_append, ← ih]
  simp only [List.count_cons, List.count_nil, List.countP_cons, List.countP_nil, h1, h2]
  rcases way_mem (n : Int) (stepAt s k).strokes with ⟨h, _⟩ | ⟨h, _⟩ | h
  · have : wayA s k n = 1 := h
    rw [this]
    simp
    omega
  · have : wayA s k n = -1 := h
    rw [this]
    simp
    omega
  · have : wayA s k n = 0 := h
    rw [this]
    simp
theorem col_total {s : Sequence} (R : RightS s) {k : Nat} (hk : k < s.steps.length) : (colB s k s.actuators.toNat).count 47 + (colB s k s.actuators.toNat).count 92 = (stepAt s k).strokes.length := by
 obtain ⟨_, hg, hy⟩ := suits_next R hk
 rw [col_counts]
 have ha : AscI ((0 : Nat) : Int) ((stepAt s k).strokes.map Stroke.actuator) := asci_of_asc hg.asc (by omega) (by omega)
 have hc := count_marks s.actuators.toNat 0 _ ha (fun x hx => by
  obtain ⟨y, h1, rfl⟩ := List.mem_map.1 hx
  have := hy y h1
  omega)
 rw [List.length_map] at hc
 rw [← hc, List.range_eq_range']
 refine List.countP_congr fun i _ => ?_
 rw [wayA, way_any, mkOf]
 simp only [List.any_eq_true, beq_iff_eq, decide_eq_true_eq, List.mem_map]
theorem cols2 (s : Sequence) (R : RightS s) (k : Nat) (hk : k < s.steps.length) (K : Option Bool) : ∀ (r pre : List Stroke), (stepAt s k).strokes = pre ++ r →
 law16_DiagramColumns_loop2 K (stepAt s k) (colB s k s.actuators.toNat, 0) (r.length + 1) (pre.length : Int) = K
 | [], pre, e => by rw [law16_DiagramColumns_loop2, end_mid e, if_neg (by simp)]
 | y :: r, pre, e => by
  obtain ⟨_, hg, hy⟩ := suits_next R hk
  have hf := hg.few
  obtain ⟨h1, h2, h3, h4, h5⟩ := step_mid e (by omega)
  have ih := cols2 s R k hk K r (pre ++ [y]) h4
  have hm : y ∈ (stepAt s k).strokes := by rw [e]; simp
  obtain ⟨y0, y1⟩ := hy y hm
  have hb : byteAt (colB s k s.actuators.toNat) y.actuator = some (fB s k y.actuator.toNat) := by
   unfold byteAt
   rw [if_pos y0]
   simp [colB, y1]
  have hw : wayA s k y.actuator.toNat = if y.out = true then 1 else -1 := by
   have := way_of_mem hg.asc y hm
   rw [wayA, show ((y.actuator.toNat : Nat) : Int) = y.actuator by omega]
   exact this
  have g1 := fB_up s k y.actuator.toNat
  have g2 := fB_down s k y.actuator.toNat
  have c1 : (((fB s k y.actuator.toNat).toNat : Int) == 47) = y.out := by
   have : (((fB s k y.actuator.toNat).toNat : Int) == 47) = (fB s k y.actuator.toNat == 47) := by
    rw [Bool.eq_iff_iff, beq_iff_eq, beq_iff_eq]
    exact ⟨fun h => UInt8.toNat_inj.1 (by have : (47 : UInt8).toNat = 47 := rfl; omega), fun h => by rw [h]; rfl⟩
   rw [this, g1, hw]
   cases y.out <;> rfl
  have c2 : ((((fB s k y.actuator.toNat).toNat : Int) == 92) == y.out) = false := by
   have : (((fB s k y.actuator.toNat).toNat : Int) == 92) = (fB s k y.actuator.toNat == 92) := by
    rw [Bool.eq_iff_iff, beq_iff_eq, beq_iff_eq]
    exact ⟨fun h => UInt8.toNat_inj.1 (by have : (92 : UInt8).toNat = 92 := rfl; omega), fun h => by rw [h]; rfl⟩
   rw [this, g2, hw]
   cases y.out <;> rfl
  rw [law16_DiagramColumns_loop2, h1, if_pos rfl, h2, Option.bind_some]
  simp only [hb, Option.bind_some]
  rw [c1, c2, if_neg (by simp), Option.bind_some, if_neg (by simp), h3, List.length_cons, ih]
theorem cols1 (s : Sequence) (R : RightS s) (h0 : checkE s = 0) (K : Option Bool) : ∀ (m k : Nat), k + m = s.steps.length → law16_DiagramColumns_loop1 s K (m + 1) (k : Int) = K
 | 0, k, h => by rw [law16_DiagramColumns_loop1, if_neg (by rw [decide_eq_true_eq]; omega)]
 | m + 1, k, h => by
  have hk : k < s.steps.length := by omega
  have hl1 := R.l1
  have n0 := R.n0
  have n1 := R.n1
  have ih := cols1 s R h0 K m (k + 1) (by omega)
  have ht := col_total R hk
  have hl := colB_len s k s.actuators.toNat
  have hn : ¬ checkE s ≠ 0 := fun q => q h0
  have hc : colR s (k : Int) = (colB s k s.actuators.toNat, 0) := by
   rw [colR, if_neg hn, if_pos ⟨by omega, by omega⟩]
   rfl
  have hf := (suits_next R hk).2.1.few
  have c1 : countS (colB s k s.actuators.toNat) [47] = some (((colB s k s.actuators.toNat).count 47 : Nat) : Int) := rfl
  have c2 : countS (colB s k s.actuators.toNat) [92] = some (((colB s k s.actuators.toNat).count 92 : Nat) : Int) := rfl
  have hu1 : (colB s k s.actuators.toNat).count 47 ≤ 6 := by have := List.count_le_length (a := (47 : UInt8)) (l := colB s k s.actuators.toNat); omega
  have hu2 : (colB s k s.actuators.toNat).count 92 ≤ 6 := by have := List.count_le_length (a := (92 : UInt8)) (l := colB s k s.actuators.toNat); omega
  rw [law16_DiagramColumns_loop1, if_pos (by rw [decide_eq_true_eq]; omega)]
  unfold joinK
  dsimp only
  rw [at_nat hk, Option.bind_some, ← stepAt_eq hk, lcol_eq, Option.bind_some, hc]
  dsimp only
  rw [if_neg (by rw [hl]; simp; omega), c1, Option.bind_some, c2, Option.bind_some, Option.bind_some, wrap64 (by omega) (by omega), if_neg (by simp; omega), fuel0, wrapN k (by omega), ih]
  exact cols2 s R k hk K _ [] rfl
theorem ups_downs {s : Sequence} (R : RightS s) {i : Nat} (hi : i < s.actuators.toNat) : ∀ k, k ≤ s.steps.length →
 (lineW s i (fun _ => 1) (fun _ => false) k).count 47 = (lineW s i (fun _ => 1) (fun _ => false) k).count 92 + (if begB s k i = true then 1 else 0)
 ∧ ((∃ j < k, wayA s j i ≠ 0) → 1 ≤ (lineW s i (fun _ => 1) (fun _ => false) k).count 47 + (lineW s i (fun _ => 1) (fun _ => false) k).count 92)
 | 0, _ => by
  have n1 := R.n1
  have hl : ∀ i < 6, (¬ 65 + UInt8.ofNat i = 47) ∧ ¬ 65 + UInt8.ofNat i = 92 := by decide
  have := hl i (by omega)
  rw [beg_zero]
  refine ⟨?_, fun ⟨j, hj, _⟩ => by omega⟩
  simp [lineW, List.count_cons, this.1, this.2]
 | k + 1, h => by
  have hk : k < s.steps.length := by omega
  obtain ⟨h1, h2⟩ := ups_downs R hi k (by omega)
  obtain ⟨hs, hg, hy⟩ := suits_next R hk
  have b1 : ∀ c : UInt8, (c == 47 || c == 92) = true → (blk s i (fun _ => 1) (fun _ => false) k).count c = if (fB s k i == c) = true then 1 else 0 := fun c hc => by
   have : (sB s k i == c) = false := by
    unfold sB restB
    simp at hc
    rcases hc with rfl | rfl
    · split <;> rfl
    · split <;> rfl
   simp [blk, List.count_cons, this]
  rw [lineW_succ, List.count_append, List.count_append, b1 47 rfl, b1 92 rfl, fB_up, fB_down, beg_next R hk hi]
  have hbeg : ∀ y ∈ (stepAt s k).strokes, y.actuator = (i : Int) → begB s k i = !y.out := fun y hm e => by
   have := suits_at hs hm e
   rw [beg_get hi] at this
   exact Option.some.inj this
  rcases way_mem (i : Int) (stepAt s k).strokes with ⟨hw, y, hm, e, ho⟩ | ⟨hw, y, hm, e, ho⟩ | hw
  · have hw : wayA s k i = 1 := hw
    have hb := hbeg y hm e
    rw [ho] at hb
    rw [hb] at h1
    simp only [Bool.not_true, Bool.false_eq_true, if_false, Nat.add_zero] at h1
    rw [hw]
    simp only [show ((1 : Int) == 1) = true from rfl, show ((1 : Int) == -1) = false from rfl, if_true, Bool.false_eq_true, if_false, Nat.add_zero]
    exact ⟨by omega, fun _ => by omega⟩
  · have hw : wayA s k i = -1 := hw
    have hb := hbeg y hm e
    rw [ho] at hb
    rw [hb] at h1
    simp only [Bool.not_false, if_true] at h1
    rw [hw]
    simp only [show ((-1 : Int) == 1) = false from rfl, show ((-1 : Int) == -1) = true from rfl, show ¬ (-1 : Int) = 1 by decide, if_true, Bool.false_eq_true, if_false, Nat.add_zero]
    exact ⟨by omega, fun _ => by omega⟩
  · have hw : wayA s k i = 0 := hw
    rw [hw]
    simp only [show ((0 : Int) == 1) = false from rfl, show ((0 : Int) == -1) = false from rfl, show ¬ (0 : Int) = 1 by decide, show ¬ (0 : Int) = -1 by decide, if_false, Bool.false_eq_true, Nat.add_zero]
    refine ⟨h1, fun ⟨j, hj, q⟩ => ?_⟩
    have : j ≠ k := fun e => q (e ▸ hw)
    exact h2 ⟨j, by omega, q⟩
theorem moves_some {s : Sequence} (R : RightS s) {i : Nat} (hi : i < s.actuators.toNat) : ∃ j < s.steps.length, wayA s j i ≠ 0 := by
 have h := List.all_eq_true.1 R.all i (List.mem_range.2 hi)
 obtain ⟨y, hy, he⟩ := List.any_eq_true.1 h
 obtain ⟨x, hx, hyx⟩ := List.mem_flatMap.1 hy
 obtain ⟨j, hj, rfl⟩ := List.getElem_of_mem hx
 refine ⟨j, hj, fun q => ?_⟩
 have := way_any (i : Int) (stepAt s j).strokes
 rw [wayA] at q
 rw [q, stepAt_eq hj] at this
 have : (s.steps[j].strokes.any fun z => z.actuator == (i : Int)) = true := List.any_eq_true.2 ⟨y, hyx, he⟩
 simp_all
theorem beg_last {s : Sequence} (R : RightS s) {i : Nat} (hi : i < s.actuators.toNat) : begB s s.steps.length i = false := by
 have h := R.last
 cases hb : begB s s.steps.length i
 · rfl
 · have := beg_get (s := s) (k := s.steps.length) hi
   rw [hb, beh, List.take_length] at this
   exact absurd (List.mem_of_getElem? this) h
theorem cols3 (s : Sequence) (R : RightS s) (K : Option Bool) : ∀ (m i : Nat), i + m = s.actuators.toNat → law16_DiagramColumns_loop3 K (linesW s (fun _ => 1) (fun _ => false) s.actuators.toNat) (m + 1) (i : Int) = K
 | 0, i, h => by rw [law16_DiagramColumns_loop3, if_neg (by rw [decide_eq_true_eq, linesW_len]; omega)]
 | m + 1, i, h => by
  have hi : i < s.actuators.toNat := by omega
  have n1 := R.n1
  have ih := cols3 s R K m (i + 1) (by omega)
  have h1 : at? (linesW s (fun _ => 1) (fun _ => false) s.actuators.toNat) (i : Int) = some (lineW s i (fun _ => 1) (fun _ => false) s.steps.length) := by
   rw [at_nat (by rw [linesW_len]; exact hi)]; simp [linesW]
  obtain ⟨u1, u2⟩ := ups_downs R hi s.steps.length (Nat.le_refl _)
  have u3 := u2 (moves_some R hi)
  rw [beg_last R hi, if_neg (by decide), Nat.add_zero] at u1
  have c1 : countS (lineW s i (fun _ => 1) (fun _ => false) s.steps.length) [47] = some (((lineW s i (fun _ => 1) (fun _ => false) s.steps.length).count 47 : Nat) : Int) := rfl
  have c2 : countS (lineW s i (fun _ => 1) (fun _ => false) s.steps.length) [92] = some (((lineW s i (fun _ => 1) (fun _ => false) s.steps.length).count 92 : Nat) : Int) := rfl
  rw [law16_DiagramColumns_loop3, if_pos (by rw [decide_eq_true_eq, linesW_len]; omega), h1, Option.bind_some]
  simp only [c1, c2, Option.bind_some]
  rw [if_neg (by simp; omega), Option.bind_some, if_neg (by simp; omega), wrapN i (by omega), ih]
theorem law_DiagramColumns (s : Sequence) : law16_DiagramColumns s = some true := by
 obtain ⟨b, hb, hz⟩ := right16 s
 unfold law16_DiagramColumns
 rw [hb, Option.bind_some, awake16]
 cases b
 · rfl
 · have h0 := hz rfl
   have R := checkE_zero h0
   have n0 := R.n0
   have hn : ¬ checkE s ≠ 0 := fun q => q h0
   rw [if_neg (by decide)]
   unfold joinK
   dsimp only
   rw [fuel0]
   refine Eq.trans (cols1 s R h0 _ s.steps.length 0 (by omega)) ?_
   rw [lDraw_eq, Option.bind_some, drawR, if_neg hn]
   dsimp only
   have hd : (drawS s).length = s.actuators.toNat + (if waitsB s = true then [lineT s.steps] else []).length := by rw [drawS, List.length_append, linesW_len]
   rw [if_neg (by simp; omega)]
   have hp : part? (drawS s) 0 s.actuators = some (linesW s (fun _ => 1) (fun _ => false) s.actuators.toNat) := by
    rw [drawS]
    exact part_takeW (linesW_len _ _ _ _) (by omega)
   rw [hp, Option.bind_some, fuel0, linesW_len]
   exact cols3 s R _ s.actuators.toNat 0 (by omega)
/-! ### the limit switches -/
theorem sws_at (s : Sequence) : ∀ (n i : Nat), i < n → at? (swS s n) ((2 * i : Nat) : Int) = some (swL s i false (s.steps.length + 1)) ∧ at? (swS s n) ((2 * i + 1 : Nat) : Int) = some (swL s i true (s.steps.length + 1))
 | 0, i, h => by omega
 | n + 1, i, h => by
  have hl := swS_len s n
  have e : ∀ j : Nat, at? (swS s (n + 1)) (j : Int) = (swS s (n + 1))[j]? := fun j => by unfold at?; rw [if_pos (by omega)]; simp
  rw [e, e, swS_succ]
  by_cases q : i < n
  · obtain ⟨a, b⟩ := sws_at s n i q
    have e2 : ∀ j : Nat, at? (swS s n) (j : Int) = (swS s n)[j]? := fun j => by unfold at?; rw [if_pos (by omega)]; simp
    rw [e2] at a b
    rw [List.getElem?_append_left (by omega), List.getElem?_append_left (by omega)]
    exact ⟨a, b⟩
  · have : i = n := by omega
    subst this
    rw [List.getElem?_append_right (by omega), List.getElem?_append_right (by omega), hl, show 2 * i - 2 * i = 0 by omega, show 2 * i + 1 - 2 * i = 1 by omega]
    exact ⟨rfl, rfl⟩
theorem sw_byte (s : Sequence) (i : Nat) (side : Bool) (n k : Nat) (h : k < n) : byteAt (swL s i side n) ((3 + k : Nat) : Int) = some (swc side (begB s k i)) := by
 unfold byteAt
 rw [if_pos (by omega), Int.toNat_natCast, swL, List.getElem?_append_right (by simp)]
 simp [h]
theorem swl2 (s : Sequence) (R : RightS s) (k : Nat) (hk : k ≤ s.steps.length) (K : Option Bool) : ∀ (m i : Nat), i + m = s.actuators.toNat →
 law16_DiagramSwitches_loop2 s (swS s s.actuators.toNat, 0) (k : Int) K (beh s k, 0) (m + 1) (i : Int) = K
 | 0, i, h => by rw [law16_DiagramSwitches_loop2, if_neg (by rw [decide_eq_true_eq, beh_len]; omega)]
 | m + 1, i, h => by
  have hi : i < s.actuators.toNat := by omega
  have hl1 := R.l1
  have n1 := R.n1
  have ih := swl2 s R k hk K m (i + 1) (by omega)
  have hat : at? (beh s k) (i : Int) = some (begB s k i) := by rw [← beg_get hi]; unfold at?; rw [if_pos (by omega)]; simp
  obtain ⟨s1, s2⟩ := sws_at s _ i hi
  have b1 := sw_byte s i false (s.steps.length + 1) k (by omega)
  have b2 := sw_byte s i true (s.steps.length + 1) k (by omega)
  have l1 := swL_len s i false (s.steps.length + 1)
  have l2 := swL_len s i true (s.steps.length + 1)
  rw [law16_DiagramSwitches_loop2, if_pos (by rw [decide_eq_true_eq, beh_len]; omega), hat, Option.bind_some]
  dsimp only
  rw [wrap64 (x := 2 * (i : Int)) (by omega) (by omega), show 2 * (i : Int) = ((2 * i : Nat) : Int) by omega, s1, Option.bind_some, wrap64 (by omega) (by omega), show ((2 * i : Nat) : Int) + 1 = ((2 * i + 1 : Nat) : Int) by omega, s2, Option.bind_some, wrap64 (by omega) (by omega), wrap64 (x := 3 + (k : Int)) (by omega) (by omega), show 3 + (k : Int) = ((3 + k : Nat) : Int) by omega, l1, l2, b1, b2, wrapN i (by omega), ih]
  rw [if_neg (by simp; omega)]
  cases begB s k i <;> rfl
theorem swl1 (s : Sequence) (R : RightS s) (h0 : checkE s = 0) (K : Option Bool) : ∀ (m k : Nat), k + m = s.steps.length + 1 →
 law16_DiagramSwitches_loop1 s K (swS s s.actuators.toNat, 0) (m + 1) (k : Int) = K
 | 0, k, h => by rw [law16_DiagramSwitches_loop1, if_neg (by rw [decide_eq_true_eq]; omega)]
 | m + 1, k, h => by
  have hk : k ≤ s.steps.length := by omega
  have hl1 := R.l1
  have n0 := R.n0
  have ih := swl1 s R h0 K m (k + 1) (by omega)
  have hn : ¬ checkE s ≠ 0 := fun q => q h0
  have hb := beh_len s k
  have hE : endsR s (k : Int) = (beh s k, 0) := by
   unfold endsR
   rw [if_neg hn, if_pos ⟨by omega, by omega⟩, Int.toNat_natCast]
  rw [law16_DiagramSwitches_loop1, if_pos (by rw [decide_eq_true_eq]; omega)]
  unfold joinK
  dsimp only
  rw [lends_eq, Option.bind_some, hE]
  dsimp only
  rw [if_neg (by simp [hb]; omega), fuel0, hb, wrapN k (by omega), ih]
  exact swl2 s R k hk K s.actuators.toNat 0 (by omega)
theorem law_DiagramSwitches (s : Sequence) : law16_DiagramSwitches s = some true := by
 obtain ⟨b, hb, hz⟩ := right16 s
 unfold law16_DiagramSwitches
 rw [hb, Option.bind_some, awake16]
 cases b
 · rfl
 · have h0 := hz rfl
   have R := checkE_zero h0
   have n0 := R.n0
   have n1 := R.n1
   have hn : ¬ checkE s ≠ 0 := fun q => q h0
   rw [if_neg (by decide), lsw_eq, Option.bind_some, swR, if_neg hn]
   dsimp only
   rw [if_neg (by rw [swS_len, wrap64 (by omega) (by omega)]; simp; omega)]
   unfold joinK
   exact swl1 s R h0 _ (s.steps.length + 1) 0 (by omega)
end Go.Proofs.YtbckcjjffbgidaaGreatDoor.W
