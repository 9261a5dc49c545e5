/- The plain laws of diagrams, fourth part: marks; Marks, Plains. No program in sight. -/
import Derived.Test.YtbckcjjffbgidaaGreatDoorLawP
set_option linter.unusedVariables false
set_option linter.unusedSimpArgs false
set_option linter.unnecessarySimpa false
set_option maxHeartbeats 2000000
namespace Go.Proofs.YtbckcjjffbgidaaGreatDoor.W
open Go Go.RowKit
/-- the error of a list of marked steps -/
def marksE (n : Int) (last : Option Int) : List Int → Int
 | [] => 0
 | x :: r => if x < 0 ∨ n ≤ x then 2 else if last.any (fun y => decide (x ≤ y)) = true then 9 else marksE n (some x) r
theorem last_test (pre : List Int) (x : Int) (before : List Int) (q : List Int) (e : before = pre ++ q) (hb : before.length ≤ 100000) :
 (if (decide ((pre.length : Int) > 0)) = true then (at? before (IntKind.wrap .i64 ((pre.length : Int) - 1))).bind fun x2 => some (decide (x ≤ x2)) else some false) = some (pre.getLast?.any fun y => decide (x ≤ y)) := by
 have hpl : before.length = pre.length + q.length := by rw [e, List.length_append]
 cases pre with
 | nil => rfl
 | cons a p =>
  rw [if_pos (by simp only [decide_eq_true_eq, List.length_cons]; omega), e, at?_last (by simp) (by omega)]
  cases h : (a :: p).getLast? with
  | none => simp at h
  | some y => rfl
theorem lmk1 (s : Sequence) (before : List Int) (hb : before.length ≤ 100000) (K : Option (List (List UInt8) × Int)) : ∀ (r pre : List Int), before = pre ++ r →
 diagram_Marks_loop1 s before K (r.length + 1) (pre.length : Int) = if marksE s.steps.length pre.getLast? r ≠ 0 then some ([], marksE s.steps.length pre.getLast? r) else K
 | [], pre, e => by
  rw [diagram_Marks_loop1, end_mid e, if_neg (by simp), marksE, if_neg (by simp)]
 | y :: r, pre, e => by
  obtain ⟨h1, h2, h3, h4, h5⟩ := step_mid e (by omega)
  have ih := lmk1 s before hb K r (pre ++ [y]) h4
  rw [diagram_Marks_loop1, h1, if_pos rfl, h2, Option.bind_some, h3, List.length_cons, ih, last_test pre y before _ e hb, Option.bind_some, List.getLast?_concat]
  by_cases hy : y < 0 ∨ (s.steps.length : Int) ≤ y
  · have em : marksE s.steps.length pre.getLast? (y :: r) = 2 := by rw [marksE, if_pos hy]
    rw [em, if_pos (by simpa using hy), if_pos (by decide)]
  · rw [if_neg (by simpa using hy)]
    cases hq : pre.getLast?.any fun z => decide (y ≤ z)
    · have em : marksE s.steps.length pre.getLast? (y :: r) = marksE s.steps.length (some y) r := by rw [marksE, if_neg hy, hq]; rfl
      rw [em]
      rfl
    · have em : marksE s.steps.length pre.getLast? (y :: r) = 9 := by rw [marksE, if_neg hy, hq]; rfl
      rw [em, if_pos rfl, if_pos (by decide)]
theorem rmk1 (s : Sequence) (before : List Int) (hb : before.length ≤ 100000) (K : Option (List (List UInt8) × Int)) : ∀ (r pre : List Int), before = pre ++ r →
 ref16_Marks_loop1 s before K (r.length + 1) (pre.length : Int) = if marksE s.steps.length pre.getLast? r ≠ 0 then some ([], marksE s.steps.length pre.getLast? r) else K
 | [], pre, e => by
  rw [ref16_Marks_loop1, end_mid e, if_neg (by simp), marksE, if_neg (by simp)]
 | y :: r, pre, e => by
  obtain ⟨h1, h2, h3, h4, h5⟩ := step_mid e (by omega)
  have ih := rmk1 s before hb K r (pre ++ [y]) h4
  have lt := last_test pre y before _ e hb
  rw [ref16_Marks_loop1, h1, if_pos rfl, h2]
  simp only [Option.bind_some]
  rw [h3, List.length_cons, ih, lt, Option.bind_some, List.getLast?_concat]
  by_cases hy : y < 0 ∨ (s.steps.length : Int) ≤ y
  · have em : marksE s.steps.length pre.getLast? (y :: r) = 2 := by rw [marksE, if_pos hy]
    have ec : (if decide (y < 0) = true then some true else some (decide (y ≥ (s.steps.length : Int)))) = some true := by
     by_cases h0 : y < 0
     · rw [if_pos (by simpa using h0)]
     · rw [if_neg (by simpa using h0), decide_eq_true (by omega)]
    rw [em, ec, Option.bind_some, if_pos rfl, if_pos (by decide)]
  · have ec : (if decide (y < 0) = true then some true else some (decide (y ≥ (s.steps.length : Int)))) = some false := by
     rw [if_neg (by simp; omega), decide_eq_false (by omega)]
    rw [ec, Option.bind_some, if_neg (by decide)]
    cases hq : pre.getLast?.any fun z => decide (y ≤ z)
    · have em : marksE s.steps.length pre.getLast? (y :: r) = marksE s.steps.length (some y) r := by rw [marksE, if_neg hy, hq]; rfl
      rw [em]
      rfl
    · have em : marksE s.steps.length pre.getLast? (y :: r) = 9 := by rw [marksE, if_neg hy, hq]; rfl
      rw [em, if_pos rfl, if_pos (by decide)]
theorem lmk3 (s : Sequence) (R : RightS s) (before : List Int) (hb : before.length ≤ 100000) (i : Nat) (hi : i < s.actuators.toNat) (K : List UInt8 → Option (List (List UInt8) × Int)) : ∀ (m k : Nat), k + m = s.steps.length →
 diagram_Marks_loop3 before (colAt s i s.steps.length) K (m + 1) (k : Int) (lineW s i (fun _ => 1) (mkOf before) k) = K (lineW s i (fun _ => 1) (mkOf before) s.steps.length)
 | 0, k, h => by
  rw [diagram_Marks_loop3, if_neg (by rw [decide_eq_true_eq, colAt_len]; omega), show k = s.steps.length by omega]
 | m + 1, k, h => by
  have hk : k < s.steps.length := by omega
  have hl1 := R.l1
  have ih := lmk3 s R before hb i hi K m (k + 1) (by omega)
  have hlen := line_len16 s i (fun _ => 1) (mkOf before) k
  rw [sum_one] at hlen
  obtain ⟨g1, b1⟩ := byte_back (fB s k i)
  obtain ⟨g2, b2⟩ := byte_back (sB s k i)
  rw [diagram_Marks_loop3, if_pos (by rw [decide_eq_true_eq, colAt_len]; omega), col_at R hk hi, Option.bind_some]
  unfold joinK guardO
  dsimp only
  rw [inI_eq before _ hb, Option.bind_some]
  by_cases hc : (k : Int) ∈ before
  · rw [if_pos (by simpa using hc), appO_ok (by simp; omega) (by decide), Option.bind_some, if_pos g1, Option.bind_some, b1, appO_ok (by simp; omega) (by decide), Option.bind_some, if_pos g2, Option.bind_some, b2, appO_ok (by simp; omega) (by decide), Option.bind_some, wrapN k (by omega), ← ih, lineW_succ]
    congr 1
    rw [blk, if_pos (by simpa [mkOf] using hc)]
    simp
  · rw [if_neg (by simpa using hc), if_pos g1, Option.bind_some, b1, appO_ok (by simp; omega) (by decide), Option.bind_some, if_pos g2, Option.bind_some, b2, appO_ok (by simp; omega) (by decide), Option.bind_some, wrapN k (by omega), ← ih, lineW_succ]
    congr 1
    rw [blk, if_neg (by simpa [mkOf] using hc)]
    simp
theorem lmk2 (s : Sequence) (R : RightS s) (before : List Int) (hb : before.length ≤ 100000) (K : List (List UInt8) → Option (List (List UInt8) × Int)) : ∀ (m i : Nat), i + m = s.actuators.toNat →
 diagram_Marks_loop2 K (cellsS s) before (m + 1) (i : Int) (linesW s (fun _ => 1) (mkOf before) i) = K (linesW s (fun _ => 1) (mkOf before) s.actuators.toNat)
 | 0, i, h => by
  rw [diagram_Marks_loop2, if_neg (by rw [decide_eq_true_eq, cellsS_len]; omega), show i = s.actuators.toNat by omega]
 | m + 1, i, h => by
  have hi : i < s.actuators.toNat := by omega
  have hl1 := R.l1
  have n1 := R.n1
  have ih := lmk2 s R before hb K m (i + 1) (by omega)
  rw [diagram_Marks_loop2, if_pos (by rw [decide_eq_true_eq, cellsS_len]; omega)]
  unfold joinK
  dsimp only
  rw [cells_at hi, Option.bind_some, letter_eq (by omega), Option.bind_some, catO_small (by simp), Option.bind_some, appO_ok (by simp) (by decide), Option.bind_some, fuel0, colAt_len]
  refine Eq.trans (lmk3 s R before hb i hi _ s.steps.length 0 (by omega)) ?_
  rw [appO_ok (by simp [linesW_len]; omega) (by decide), Option.bind_some, wrapN i (by omega), ← ih, linesW_succ]
def marksR (s : Sequence) (before : List Int) : List (List UInt8) × Int :=
 if checkE s ≠ 0 then ([], checkE s) else if marksE s.steps.length none before ≠ 0 then ([], marksE s.steps.length none before) else (linesW s (fun _ => 1) (mkOf before) s.actuators.toNat, 0)
theorem lmarks_eq (s : Sequence) (before : List Int) (hb : before.length ≤ 100000) : diagram_Marks s before = some (marksR s before) := by
 unfold diagram_Marks marksR
 rw [lcheck14, Option.bind_some]
 by_cases h : checkE s = 0
 · have R := checkE_zero h
   rw [if_neg (by simpa using h), if_neg (fun q : checkE s ≠ 0 => q h)]
   unfold joinK
   dsimp only
   rw [fuel0]
   refine Eq.trans (lmk1 s before hb _ before [] rfl) ?_
   rw [List.getLast?_nil]
   by_cases hm : marksE s.steps.length none before ≠ 0
   · rw [if_pos hm, if_pos hm]
   · rw [if_neg hm, if_neg hm, cells_eq s R, Option.bind_some, fuel0, cellsS_len]
     exact lmk2 s R before hb _ s.actuators.toNat 0 (by omega)
 · rw [if_pos (by simpa using h), if_pos h]
theorem rmarks_eq (s : Sequence) (before : List Int) (hb : before.length ≤ 100000) : ref16_Marks s before = some (marksR s before) := by
 unfold ref16_Marks marksR
 rw [rcheck14, Option.bind_some]
 by_cases h : checkE s = 0
 · have R := checkE_zero h
   have hl1 := R.l1
   rw [if_neg (by simpa using h), if_neg (fun q : checkE s ≠ 0 => q h)]
   unfold joinK
   dsimp only
   rw [fuel0]
   refine Eq.trans (rmk1 s before hb _ before [] rfl) ?_
   rw [List.getLast?_nil]
   by_cases hm : marksE s.steps.length none before ≠ 0
   · rw [if_pos hm, if_pos hm]
   · rw [if_neg hm, if_neg hm, ones_eq _ (by omega), Option.bind_some, rdrawn_eq s R _ before (fun _ => 1) (fun k hk => ⟨ones_at _ k hk, by omega⟩) (by rw [sum_one]; omega) hb, Option.bind_some]
 · rw [if_pos (by simpa using h), if_pos h]
theorem marksR_len (s : Sequence) (before : List Int) : (marksR s before).1.length ≤ 6 := by
 unfold marksR
 split
 · simp
 · split
   · simp
   · rename_i h _
     have := (checkE_zero (Decidable.not_not.1 h)).n1
     rw [linesW_len]; omega
theorem law_DiagramMarks (s : Sequence) (before : List Int) : law16_DiagramMarks s before = some true := by
 obtain ⟨b, hb⟩ := few16 s
 unfold law16_DiagramMarks
 rw [hb, Option.bind_some, awake16]
 by_cases hl : before.length ≤ 100
 · cases b
   · rfl
   · have e1 := eqT_eq (marksR s before).1 (by have := marksR_len s before; omega)
     rw [if_neg (by simp; omega), lmarks_eq s before (by omega), rmarks_eq s before (by omega)]
     simp [e1]
 · rw [if_pos (by simp; omega)]
   rfl
/-! ### without marks -/
theorem occ_one (c : UInt8) (s : List UInt8) (j : Nat) : Lib.occAt s [c] j = (s[j]? == some c) := by
 unfold Lib.occAt
 rw [← List.head?_drop]
 cases s.drop j with
 | nil => rfl
 | cons b r =>
  simp only [List.isPrefixOf, List.head?_cons, Bool.and_true]
  rw [Bool.eq_iff_iff, beq_iff_eq, beq_iff_eq]
  exact ⟨fun h => by rw [h], fun h => (Option.some.inj h).symm⟩
theorem index_cut (c : UInt8) (a r : List UInt8) (h : c ∉ a) : Lib.index (a ++ c :: r) [c] = (a.length : Nat) := by
 refine Lib.index_first (by simp) ?_ (fun j hj => ?_)
 · rw [occ_one]; simp
 · rw [occ_one, List.getElem?_append_left hj, List.getElem?_eq_getElem hj, beq_eq_false_iff_ne]
   intro q
   exact h (by rw [← Option.some.inj q]; exact List.getElem_mem hj)
theorem index_no (c : UInt8) (a : List UInt8) (h : c ∉ a) : Lib.index a [c] = -1 := by
 refine Lib.index_none (fun j hj => ?_)
 rw [occ_one, beq_eq_false_iff_ne]
 intro q
 exact h (List.mem_of_getElem? q)
theorem find_byte (c : UInt8) : ∀ s : List UInt8, c ∈ s → ∃ a r, s = a ++ c :: r ∧ c ∉ a
 | [], h => by simp at h
 | b :: t, h => by
  by_cases hb : b = c
  · exact ⟨[], t, by rw [hb]; rfl, by simp⟩
  · obtain ⟨a, r, e, ha⟩ := find_byte c t (by
     rcases List.mem_cons.1 h with q | q
     · exact absurd q.symm hb
     · exact q)
    refine ⟨b :: a, r, by rw [e]; rfl, fun q => ?_⟩
    rcases List.mem_cons.1 q with q | q
    · exact hb q.symm
    · exact ha q
theorem repl_filter (c : UInt8) : ∀ (n : Nat) (s : List UInt8), s.length ≤ n → Lib.replaceK [c] [] (Lib.count s [c]) s = s.filter (fun b => !(b == c))
 | n, s, hn => by
  by_cases h : c ∈ s
  · obtain ⟨a, r, rfl, ha⟩ := find_byte c s h
    have hi := index_cut c a r ha
    have e : (a ++ c :: r).drop (a.length + ([c] : List UInt8).length) = r := by simp
    cases n with
    | zero => simp at hn
    | succ n =>
     rw [Lib.count_hit (by simp) hi, e, Nat.add_comm 1, Lib.replaceK_hit _ _ _ _ _ hi, e, repl_filter c n r (by simp at hn; omega)]
     have hf : a.filter (fun b => !(b == c)) = a := List.filter_eq_self.2 (fun b hb => by
      have : b ≠ c := fun q => ha (q ▸ hb)
      simpa using this)
     simp [hf]
  · have hf : s.filter (fun b => !(b == c)) = s := List.filter_eq_self.2 (fun b hb => by
     have : b ≠ c := fun q => h (q ▸ hb)
     simpa using this)
    rw [Lib.count_miss (index_no c s h), Lib.replaceK, hf]
theorem replAll_eq (s : List UInt8) (c : UInt8) (hs : s.length ≤ 1000000) : replAll s [c] [] = some (s.filter (fun b => !(b == c))) := by
 unfold replAll
 rw [if_pos ⟨by omega, by simp, by simp; omega⟩]
 congr 1
 unfold Lib.replaceAll Lib.replace Lib.replaceNum
 rw [if_neg (by simp), if_pos (.inl (by decide))]
 exact repl_filter c s.length s (Nat.le_refl _)
theorem fB_ne (s : Sequence) (k i : Nat) : fB s k i ≠ 124 := by
 unfold fB restB
 split
 · decide
 · split
   · decide
   · split <;> decide
theorem sB_ne (s : Sequence) (k i : Nat) : sB s k i ≠ 124 := by
 unfold sB restB
 split <;> decide
theorem letter_ne : ∀ i < 6, ¬ 65 + UInt8.ofNat i = 124 := by decide
theorem plain_line (s : Sequence) (i : Nat) (hi : i < 6) (mk : Nat → Bool) : ∀ k, (lineW s i (fun _ => 1) mk k).filter (fun b => !(b == 124)) = lineW s i (fun _ => 1) (fun _ => false) k
 | 0 => by
  have := letter_ne i hi
  simp [lineW, this]
 | k + 1 => by
  rw [lineW_succ, lineW_succ, List.filter_append, plain_line s i hi mk k]
  congr 1
  have h1 := fB_ne s k i
  have h2 := sB_ne s k i
  unfold blk
  cases mk k <;> simp [h1, h2]
theorem count_line (s : Sequence) (i : Nat) (hi : i < 6) (mk : Nat → Bool) : ∀ k, (lineW s i (fun _ => 1) mk k).count 124 = (List.range k).countP mk
 | 0 => by
  have := letter_ne i hi
  simp [lineW, List.count_cons, this]
 | k + 1 => by
  have h1 := fB_ne s k i
  have h2 := sB_ne s k i
  rw [lineW_succ, List.count_append, count_line s i hi mk k, List.range_succ, List.countP_append]
  congr 1
  unfold blk
  cases hm : mk k <;> simp [List.count_cons, h1, h2, hm]
def AscI (lo : Int) : List Int → Prop
 | [] => True
 | x :: r => lo ≤ x ∧ AscI (x + 1) r
theorem asci_ge : ∀ {l : List Int} {lo : Int}, AscI lo l → ∀ x ∈ l, lo ≤ x
 | [], _, _, x, hx => by simp at hx
 | y :: r, lo, h, x, hx => by
  rcases List.mem_cons.1 hx with rfl | hx
  · exact h.1
  · have := asci_ge h.2 x hx
    have := h.1
    omega
theorem marksE_zero (n : Int) : ∀ (l : List Int) (last : Option Int), marksE n last l = 0 → AscI (match last with | none => 0 | some y => y + 1) l ∧ ∀ x ∈ l, 0 ≤ x ∧ x < n
 | [], last, _ => ⟨trivial, fun x hx => by simp at hx⟩
 | x :: r, last, h => by
  rw [marksE] at h
  split at h
  · cases h
  · rename_i h1
    split at h
    · cases h
    · rename_i h2
      obtain ⟨h3, h4⟩ := marksE_zero n r (some x) h
      refine ⟨⟨?_, h3⟩, fun y hy => ?_⟩
      · cases last with
        | none => dsimp only; omega
        | some z =>
         dsimp only
         simp at h2
         omega
      · rcases List.mem_cons.1 hy with rfl | hy
        · omega
        · exact h4 y hy
theorem count_marks : ∀ (m lo : Nat) (l : List Int), AscI (lo : Int) l → (∀ x ∈ l, x < ((lo + m : Nat) : Int)) → (List.range' lo m).countP (mkOf l) = l.length
 | 0, lo, l, ha, hl => by
  cases l with
  | nil => rfl
  | cons x r =>
   have := hl x (by simp)
   have := ha.1
   omega
 | m + 1, lo, l, ha, hl => by
  rw [List.range'_succ, List.countP_cons]
  cases l with
  | nil =>
   have ih := count_marks m (lo + 1) [] trivial (fun x hx => by simp at hx)
   rw [ih]
   simp [mkOf]
  | cons x r =>
   by_cases hx : x = (lo : Int)
   · subst hx
     have ha2 : AscI (((lo + 1 : Nat) : Nat) : Int) r := by have := ha.2; rw [show ((lo + 1 : Nat) : Int) = (lo : Int) + 1 by omega]; exact this
     have ih := count_marks m (lo + 1) r ha2 (fun y hy => by have := hl y (by simp [hy]); omega)
     have e : (List.range' (lo + 1) m).countP (mkOf ((lo : Int) :: r)) = (List.range' (lo + 1) m).countP (mkOf r) := by
      refine List.countP_congr fun k hk => ?_
      rw [List.mem_range'_1] at hk
      have : ¬ (k : Int) = (lo : Int) := by omega
      simp [mkOf, this]
     rw [e, ih]
     simp [mkOf]
   · have h1 := ha.1
     have ih := count_marks m (lo + 1) (x :: r) ⟨by omega, ha.2⟩ (fun y hy => by have := hl y hy; omega)
     have hge : ∀ y ∈ x :: r, (lo : Int) < y := fun y hy => by
      rcases List.mem_cons.1 hy with rfl | hy
      · omega
      · have := asci_ge ha.2 y hy; omega
     have hno : mkOf (x :: r) lo = false := by
      rw [mkOf, decide_eq_false]
      intro q
      have := hge _ q
      omega
     rw [ih, hno]
     rfl
theorem plains_loop (s : Sequence) (R : RightS s) (before : List Int) (hb : before.length ≤ 100) (hc : (List.range s.steps.length).countP (mkOf before) = before.length) (K : Option Bool) : ∀ (m i : Nat), i + m = s.actuators.toNat →
 law16_DiagramPlains_loop1 before (linesW s (fun _ => 1) (mkOf before) s.actuators.toNat, 0) (drawS s, 0) K (m + 1) (i : Int) = K
 | 0, i, h => by
  rw [law16_DiagramPlains_loop1, if_neg (by rw [decide_eq_true_eq, linesW_len]; omega)]
 | m + 1, i, h => by
  have hi : i < s.actuators.toNat := by omega
  have hl1 := R.l1
  have n1 := R.n1
  have ih := plains_loop s R before hb hc K m (i + 1) (by omega)
  have hlen := line_len16 s i (fun _ => 1) (mkOf before) s.steps.length
  rw [sum_one] at hlen
  have h1 : at? (linesW s (fun _ => 1) (mkOf before) s.actuators.toNat) (i : Int) = some (lineW s i (fun _ => 1) (mkOf before) s.steps.length) := by
   rw [at_nat (by rw [linesW_len]; exact hi)]; simp [linesW]
  have h2 : at? (drawS s) (i : Int) = some (lineW s i (fun _ => 1) (fun _ => false) s.steps.length) := by
   have : i < (linesW s (fun _ => 1) (fun _ => false) s.actuators.toNat).length := by rw [linesW_len]; exact hi
   rw [at_nat (by rw [drawS, List.length_append]; omega)]
   simp only [drawS, List.getElem_append_left this]
   simp [linesW]
  have h3 : countS (lineW s i (fun _ => 1) (mkOf before) s.steps.length) [124] = some (before.length : Int) := by
   show some ((List.count 124 (lineW s i (fun _ => 1) (mkOf before) s.steps.length) : Nat) : Int) = _
   rw [count_line s i (by omega), hc]
  rw [law16_DiagramPlains_loop1, if_pos (by rw [decide_eq_true_eq, linesW_len]; omega), h1, Option.bind_some, replAll_eq _ _ (by omega), Option.bind_some, h2, Option.bind_some, h3, plain_line s i (by omega), if_neg (by simp), Option.bind_some, Option.bind_some, if_neg (by simp), wrapN i (by omega), ih]
theorem right16 (s : Sequence) : ∃ b, law16_right s = some b ∧ (b = true → checkE s = 0) := by
 obtain ⟨b, hb⟩ := few16 s
 unfold law16_right
 rw [hb, Option.bind_some, rcheck14]
 cases b
 · exact ⟨false, rfl, fun h => by cases h⟩
 · exact ⟨checkE s == 0, rfl, fun h => by simpa using h⟩
theorem law_DiagramPlains (s : Sequence) (before : List Int) : law16_DiagramPlains s before = some true := by
 obtain ⟨b, hb, hz⟩ := right16 s
 unfold law16_DiagramPlains
 rw [hb, Option.bind_some, awake16]
 by_cases hl : before.length ≤ 100
 · cases b
   · rfl
   · have h0 := hz rfl
     have R := checkE_zero h0
     have hn : ¬ checkE s ≠ 0 := fun q => q h0
     rw [if_neg (by simp; omega), lmarks_eq s before (by omega), Option.bind_some, marksR, if_neg hn]
     by_cases hm : marksE s.steps.length none before = 0
     · have hm2 : ¬ marksE s.steps.length none before ≠ 0 := fun q => q hm
       rw [if_neg hm2, if_neg (by simp), lDraw_eq, Option.bind_some, drawR, if_neg hn]
       have hd : s.actuators.toNat ≤ (drawS s).length := by rw [drawS, List.length_append, linesW_len]; omega
       have n0 := R.n0
       rw [if_neg (by simp [linesW_len]; omega)]
       unfold joinK
       dsimp only
       rw [fuel0, linesW_len]
       obtain ⟨h1, h2⟩ := marksE_zero _ before none hm
       have hc := count_marks s.steps.length 0 before h1 (fun x hx => by have := (h2 x hx).2; omega)
       rw [← List.range_eq_range'] at hc
       exact plains_loop s R before hl hc _ s.actuators.toNat 0 (by omega)
     · rw [if_pos hm, if_pos (by simpa using hm)]
       rfl
 · rw [if_pos (by simp; omega)]
   rfl
end Go.Proofs.YtbckcjjffbgidaaGreatDoor.W
