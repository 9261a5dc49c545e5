/- The plain laws of sequences, fifth part: texts; what comes back. No program in sight. -/
import Derived.Test.YtbhcojijafbdiaaGreatDoorLawK
set_option linter.unusedVariables false
set_option linter.unusedSimpArgs false
set_option maxHeartbeats 2000000
namespace Go.Proofs.YtbhcojijafbdiaaGreatDoor.W
open Go Go.RowKit
/-! ### texts -/
def ofF (n : Int) (L : List Stroke) : Int := L.foldl (fun m y => if y.actuator + 1 > m then y.actuator + 1 else m) n
theorem ofF_cons (n : Int) (y : Stroke) (L : List Stroke) : ofF n (y :: L) = ofF (if y.actuator + 1 > n then y.actuator + 1 else n) L := rfl
theorem ofF_app (n : Int) (L M : List Stroke) : ofF n (L ++ M) = ofF (ofF n L) M := by simp [ofF]
theorem lpar2 (x : Step) (K : Int → Option (Sequence × Int × Int)) (hl : x.strokes.length ≤ 100) (hp : ∀ y ∈ x.strokes, 0 ≤ y.actuator ∧ y.actuator < 6) : ∀ (r pre : List Stroke) (n : Int), x.strokes = pre ++ r → sequence_Parse_loop2 K x (r.length + 1) (pre.length : Int) n = K (ofF n r)
  | [], pre, n, e => by
    rw [sequence_Parse_loop2, end_mid e]
    simp [ofF]
  | y :: r, pre, n, e => by
    obtain ⟨h1, h2, h3, h4, h5⟩ := step_mid e (by omega)
    have hy := hp y (by rw [e]; simp)
    rw [sequence_Parse_loop2, h1, if_pos rfl, h2, Option.bind_some, h3, wrap64 (x := y.actuator + 1) (by omega) (by omega), List.length_cons, ofF_cons]
    exact lpar2 x K hl hp r (pre ++ [y]) _ h4
theorem lpar1 (l : List Step) (e2 e3 : Int) (K : Int → Option (Sequence × Int × Int)) (hl : l.length ≤ 100) (hp : ∀ x ∈ l, GoodS x) : ∀ (r pre : List Step) (n : Int), l = pre ++ r → sequence_Parse_loop1 (l, e2, e3) K (r.length + 1) (pre.length : Int) n = K (ofF n (flat r))
  | [], pre, n, e => by
    rw [sequence_Parse_loop1, end_mid e]
    simp [ofF, flat]
  | x :: r, pre, n, e => by
    obtain ⟨h1, h2, h3, h4, h5⟩ := step_mid e (by omega)
    have g := hp x (by rw [e]; simp)
    have hf := g.few
    rw [sequence_Parse_loop1]
    unfold joinK
    dsimp only
    rw [h1, if_pos rfl, h2, Option.bind_some, h3, List.length_cons, fuel0, flat_cons, ofF_app]
    refine Eq.trans (lpar2 x _ (by omega) (fun y hy => ⟨(asc_mem g.asc y hy).1, (asc_mem g.asc y hy).2.1⟩) x.strokes [] n rfl) ?_
    exact lpar1 l e2 e3 K hl hp r (pre ++ [x]) _ h4
def parse14 (s : List UInt8) : Sequence × Int × Int :=
  if (parseR s).2.2 ≠ 0 then (⟨0, []⟩, (parseR s).2.1, (parseR s).2.2) else if (parseR s).1.length = 0 then (⟨0, []⟩, 0, 13)
  else if checkE ⟨ofF 0 (flat (parseR s).1), (parseR s).1⟩ ≠ 0 then (⟨0, []⟩, 0, checkE ⟨ofF 0 (flat (parseR s).1), (parseR s).1⟩) else (⟨ofF 0 (flat (parseR s).1), (parseR s).1⟩, 0, 0)
theorem lparse14 (s : List UInt8) : sequence_Parse s = some (parse14 s) := by
  obtain ⟨h1, h2⟩ := parseR_good s
  unfold sequence_Parse parse14
  rw [lparse_eq, Option.bind_some]
  by_cases he : (parseR s).2.2 = 0
  · have hn : ¬ (parseR s).2.2 ≠ 0 := fun q => q he
    rw [if_neg (by simpa using he), if_neg hn]
    by_cases h0 : (parseR s).1.length = 0
    · rw [if_pos (by simpa using h0), if_pos h0]
    · rw [if_neg (by simpa using h0), if_neg h0]
      unfold joinK
      dsimp only
      rw [fuel0]
      refine Eq.trans (lpar1 (parseR s).1 (parseR s).2.1 (parseR s).2.2 _ (by omega) h2 (parseR s).1 [] 0 rfl) ?_
      rw [lcheck14, Option.bind_some]
      by_cases hc : checkE ⟨ofF 0 (flat (parseR s).1), (parseR s).1⟩ = 0
      · rw [if_neg (by simpa using hc), if_neg (fun q => q hc)]
      · rw [if_pos (by simpa using hc), if_pos hc]
  · rw [if_pos (by simpa using he), if_pos he]
theorem rof2 (l : List Step) (i : Int) (x : Step) (hat : at? l i = some x) (K : Int → Option Sequence) (hl : x.strokes.length ≤ 6) (hp : ∀ y ∈ x.strokes, 0 ≤ y.actuator ∧ y.actuator < 6) : ∀ (r pre : List Stroke) (n : Int) (f : Nat), x.strokes = pre ++ r → r.length ≤ f →
    ref14_Of_loop2 l i K (f + 1) (pre.length : Int) n = K (ofF n r)
  | [], pre, n, f, e, hf => by
    rw [ref14_Of_loop2, hat, Option.bind_some, end_mid e]
    simp [ofF]
  | y :: r, pre, n, f + 1, e, hf => by
    obtain ⟨h1, h2, h3, h4, h5⟩ := step_mid e (by omega)
    have hy := hp y (by rw [e]; simp)
    rw [ref14_Of_loop2, hat, Option.bind_some, h1, if_pos rfl, Option.bind_some, h2, Option.bind_some, h3, wrap64 (x := y.actuator + 1) (by omega) (by omega), ofF_cons]
    exact rof2 l i x hat K hl hp r (pre ++ [y]) _ f h4 (by simp at hf; omega)
theorem rof1 (l : List Step) (K : Int → Option Sequence) (hl : l.length ≤ 100) (hp : ∀ x ∈ l, GoodS x) : ∀ (r pre : List Step) (n : Int), l = pre ++ r → ref14_Of_loop1 l K (r.length + 1) (pre.length : Int) n = K (ofF n (flat r))
  | [], pre, n, e => by
    rw [ref14_Of_loop1, end_mid e]
    simp [ofF, flat]
  | x :: r, pre, n, e => by
    obtain ⟨h1, h2, h3, h4, h5⟩ := step_mid e (by omega)
    have g := hp x (by rw [e]; simp)
    have hf := g.few
    rw [ref14_Of_loop1, h1, if_pos rfl]
    unfold joinK
    dsimp only
    rw [h3, List.length_cons, flat_cons, ofF_app]
    refine Eq.trans (rof2 l _ x h2 _ hf (fun y hy => ⟨(asc_mem g.asc y hy).1, (asc_mem g.asc y hy).2.1⟩) x.strokes [] n 41 rfl (by omega)) ?_
    exact rof1 l K hl hp r (pre ++ [x]) _ h4
theorem rof_eq (l : List Step) (hl : l.length ≤ 100) (hp : ∀ x ∈ l, GoodS x) : ref14_Of l = some ⟨ofF 0 (flat l), l⟩ := by
  unfold ref14_Of joinK
  dsimp only
  rw [fuel0]
  exact rof1 l _ hl hp l [] 0 rfl
theorem rparse14 (s : List UInt8) : ref14_Parse s = some (parse14 s) := by
  obtain ⟨h1, h2⟩ := parseR_good s
  unfold ref14_Parse parse14
  rw [rparse_eq, Option.bind_some]
  by_cases he : (parseR s).2.2 = 0
  · have hn : ¬ (parseR s).2.2 ≠ 0 := fun q => q he
    rw [if_neg (by simpa using he), if_neg hn]
    by_cases h0 : (parseR s).1.length = 0
    · rw [if_pos (by simpa using h0), if_pos h0]
    · rw [if_neg (by simpa using h0), if_neg h0, rof_eq _ (by omega) h2, Option.bind_some, rcheck14, Option.bind_some, Option.bind_some]
      by_cases hc : checkE ⟨ofF 0 (flat (parseR s).1), (parseR s).1⟩ = 0
      · rw [if_neg (by simpa using hc), if_neg (fun q => q hc)]
      · rw [if_pos (by simpa using hc), if_pos hc]
  · rw [if_pos (by simpa using he), if_pos he]
def text14 (s : Sequence) : List UInt8 × Int := if checkE s ≠ 0 then ([], checkE s) else (textL s.steps, 0)
theorem errL_zero {l : List Step} (h : ∀ x ∈ l, GoodS x) : errL l = 0 := errL_good.2 h
theorem text_eq (s : Sequence) : sequence_Text s = some (text14 s) ∧ ref14_Text s = some (text14 s) := by
  unfold sequence_Text ref14_Text text14
  rw [lcheck14, rcheck14, Option.bind_some, Option.bind_some]
  by_cases h : checkE s = 0
  · have R := checkE_zero h
    have l1 := R.l1
    have hn : ¬ checkE s ≠ 0 := fun q => q h
    have c1 : ¬ (checkE s != 0) = true := by simpa using h
    have hg : ∀ x ∈ s.steps, GoodS x := fun x hx => (R.good x hx).1
    rw [if_neg c1, if_neg c1, if_neg hn, lform_eq, rlines_eq _ hg l1, Option.bind_some, Option.bind_some, formatR, if_neg (by omega), if_neg (fun q => q (errL_zero hg))]
    exact ⟨rfl, rfl⟩
  · have c1 : (checkE s != 0) = true := by simpa using h
    rw [if_pos c1, if_pos c1, if_pos h]
    exact ⟨rfl, rfl⟩
theorem parse14_small (s : List UInt8) : (parse14 s).1.steps.length ≤ 64 ∧ ∀ x ∈ (parse14 s).1.steps, x.strokes.length ≤ 100 := by
  obtain ⟨h1, h2⟩ := parseR_good s
  unfold parse14
  split
  · simp
  · split
    · simp
    · split
      · simp
      · exact ⟨h1, fun x hx => by have := (h2 x hx).few; omega⟩
theorem law_SequenceTexts (s : Sequence) (t : List UInt8) : law14_SequenceTexts s t = some true := by
  unfold law14_SequenceTexts
  obtain ⟨b, hb, hf⟩ := few14 s
  obtain ⟨p1, p2⟩ := parse14_small t
  obtain ⟨q1, q2⟩ := same14 (parse14 t).1 (parse14 t).1 (by omega) (fun x hx => by have := p2 x hx; omega)
  rw [hb, Option.bind_some, awake14, (text_eq s).1, (text_eq s).2, lparse14, rparse14]
  split
  · rfl
  · simp [q2]
theorem of_right {s : Sequence} (R : RightS s) : ofF 0 (flat s.steps) = s.actuators := by
  have n0 := R.n0
  have up : ∀ (L : List Stroke) (n : Int), (∀ y ∈ L, y.actuator < s.actuators) → n ≤ s.actuators → ofF n L ≤ s.actuators ∧ n ≤ ofF n L ∧ ∀ y ∈ L, y.actuator < ofF n L := by
    intro L
    induction L with
    | nil => intro n _ h; exact ⟨h, Int.le_refl _, fun y hy => by cases hy⟩
    | cons z L ih =>
      intro n h hn
      have hz := h z (by simp)
      rw [ofF_cons]
      have hm : n ≤ (if z.actuator + 1 > n then z.actuator + 1 else n) ∧ z.actuator + 1 ≤ (if z.actuator + 1 > n then z.actuator + 1 else n) ∧ (if z.actuator + 1 > n then z.actuator + 1 else n) ≤ s.actuators := by split <;> omega
      generalize (if z.actuator + 1 > n then z.actuator + 1 else n) = mm at hm ⊢
      obtain ⟨i1, i2, i3⟩ := ih mm (fun y hy => h y (by simp [hy])) hm.2.2
      refine ⟨i1, by omega, fun y hy => ?_⟩
      rcases List.mem_cons.1 hy with rfl | hy
      · omega
      · exact i3 y hy
  have hlt : ∀ y ∈ flat s.steps, y.actuator < s.actuators := fun y hy => by
    obtain ⟨x, hx, hy⟩ := List.mem_flatMap.1 hy
    exact (R.good x hx).2 y hy
  obtain ⟨h1, h2, h3⟩ := up (flat s.steps) 0 hlt (by omega)
  have ha := List.all_eq_true.1 R.all (s.actuators.toNat - 1) (by rw [List.mem_range]; omega)
  obtain ⟨y, hy, hq⟩ := List.any_eq_true.1 ha
  have := h3 y hy
  have : y.actuator = ((s.actuators.toNat - 1 : Nat) : Int) := by simpa using hq
  omega
theorem parse_text14 {s : Sequence} (h : checkE s = 0) : parse14 (textL s.steps) = (s, 0, 0) := by
  have R := checkE_zero h
  have hg : ∀ x ∈ s.steps, GoodS x := fun x hx => (R.good x hx).1
  have l0 : 0 < s.steps.length := List.length_pos_iff.2 R.l0
  unfold parse14
  rw [parse_text hg R.l1]
  dsimp only
  rw [if_neg (fun q => q rfl), if_neg (by omega), of_right R]
  have : Sequence.mk s.actuators s.steps = s := rfl
  rw [this, if_neg (fun q => q h)]
theorem text_parse14 {t : List UInt8} (h : (parse14 t).2.2 = 0) : text14 (parse14 t).1 = (t, 0) := by
  unfold parse14 at h ⊢
  split at h
  · rename_i q; exact absurd h q
  · rename_i he
    split at h
    · cases h
    · rename_i h0
      split at h
      · rename_i q; exact absurd h q
      · rename_i hc
        rw [if_neg he, if_neg h0, if_neg hc]
        dsimp only
        have hf := format_parse (Decidable.not_not.1 he)
        obtain ⟨h1, h2⟩ := parseR_good t
        unfold text14
        rw [if_neg hc]
        unfold formatR at hf
        rw [if_neg (by omega), if_neg (fun q => q (errL_zero h2))] at hf
        exact hf
theorem law_SequenceReads (s : Sequence) (t : List UInt8) : law14_SequenceReads s t = some true := by
  unfold law14_SequenceReads joinK
  dsimp only
  obtain ⟨b, hb, hf⟩ := few14 s
  rw [hb, Option.bind_some, awake14, (text_eq s).1, lparse14]
  have k2 : ((some (parse14 t)).bind fun r6 => if (r6.2.2 == 0) = true then (sequence_Text r6.1).bind fun r7 => if ((r7.2 != 0) || (!(r7.1 == t))) = true then some false else (some true).bind fun r8 => some r8 else (some true).bind fun r8 => some r8) = some true := by
    rw [Option.bind_some, (text_eq _).1]
    by_cases he : (parse14 t).2.2 = 0
    · rw [if_pos (by simpa using he), text_parse14 he]
      simp
    · rw [if_neg (by simpa using he)]
      rfl
  split
  · rfl
  · rename_i hz
    have hb1 : b = true := by cases b <;> simp at hz ⊢
    obtain ⟨f1, f2⟩ := hf.1 hb1
    rw [k2]
    by_cases h : checkE s = 0
    · have ht : text14 s = (textL s.steps, 0) := by unfold text14; rw [if_neg (fun q => q h)]
      obtain ⟨q1, q2⟩ := same14 s s (by omega) (fun x hx => by have := f2 x hx; omega)
      rw [ht]
      simp [lparse14, parse_text14 h, q2]
    · have ht : text14 s = ([], checkE s) := by unfold text14; rw [if_pos h]
      rw [ht]
      simp [h]
/-! ### repeats, told of themselves -/
theorem right_eq (s : Sequence) : ∃ b, law14_right s = some b ∧ (b = true → RightS s ∧ checkE s = 0) := by
  unfold law14_right
  obtain ⟨b, hb, hf⟩ := few14 s
  rw [hb, Option.bind_some, rcheck14]
  cases b
  · exact ⟨false, rfl, by simp⟩
  · refine ⟨checkE s == 0, rfl, fun h => ?_⟩
    have h := eq_of_beq h
    exact ⟨checkE_zero h, h⟩
theorem less_eq (x y : Int) : cmp_Less_int x y = some (decide (x < y)) := by
  unfold cmp_Less_int cmp_isNaN_int
  simp
theorem sorted_loop (l : List Int) (hl : l.length ≤ 1000) (hs : l.Pairwise (· ≤ ·)) : ∀ (m : Nat), m < l.length + 1 → slices_IsSorted_intint_loop1 l (some true) (m + 1) ((m : Int) - 1) = some true
  | 0, _ => by
    rw [slices_IsSorted_intint_loop1, if_neg (by decide)]
  | 1, _ => by
    rw [slices_IsSorted_intint_loop1, if_neg (by decide)]
  | m + 2, h => by
    have ih := sorted_loop l hl hs (m + 1) (by omega)
    have h1 : at? l (((m + 2 : Nat) : Int) - 1) = some l[m + 1] := by unfold at?; rw [if_pos (by omega), show (((m + 2 : Nat) : Int) - 1).toNat = m + 1 by omega, List.getElem?_eq_getElem]
    have h2 : at? l (((m + 2 : Nat) : Int) - 1 - 1) = some l[m] := by unfold at?; rw [if_pos (by omega), show (((m + 2 : Nat) : Int) - 1 - 1).toNat = m by omega, List.getElem?_eq_getElem]
    have h3 := List.pairwise_iff_getElem.1 hs m (m + 1) (by omega) (by omega) (by omega)
    rw [slices_IsSorted_intint_loop1, if_pos (by rw [decide_eq_true_eq]; omega), h1, Option.bind_some, wrap64 (by omega) (by omega), h2, Option.bind_some, less_eq, Option.bind_some, if_neg (by rw [decide_eq_true_eq]; omega), show ((m + 2 : Nat) : Int) - 1 - 1 = ((m + 1 : Nat) : Int) - 1 by omega]
    exact ih
theorem sorted_eq (l : List Int) (hl : l.length ≤ 1000) (hs : l.Pairwise (· ≤ ·)) : slices_IsSorted_intint l = some true := by
  unfold slices_IsSorted_intint joinK
  dsimp only
  rw [wrap64 (by omega) (by omega)]
  exact sorted_loop l hl hs l.length (by omega)
theorem repF_sorted (s : Sequence) (n : Nat) : (repF s n).Pairwise (· ≤ ·) := by
  unfold repF
  refine List.pairwise_map.2 (List.Pairwise.sublist List.filter_sublist ?_)
  exact List.pairwise_lt_range.imp fun h => by omega
theorem repF_mem (s : Sequence) (n k : Nat) : ((k : Int) ∈ repF s n) ↔ k < n ∧ repAt s k = true := by
  unfold repF
  rw [List.mem_map]
  constructor
  · rintro ⟨j, h1, h2⟩
    obtain ⟨h3, h4⟩ := List.mem_filter.1 h1
    obtain rfl : j = k := by omega
    exact ⟨List.mem_range.1 h3, h4⟩
  · rintro ⟨h1, h2⟩
    exact ⟨k, List.mem_filter.2 ⟨List.mem_range.2 h1, h2⟩, rfl⟩
theorem seen_loop (L : List (List Bool)) (v : List Bool) (K : Bool → Option Bool) (hl : L.length ≤ 1000) (hs : ∀ x ∈ L, x.length ≤ 1000) : ∀ (r pre : List (List Bool)), L = pre ++ r → law14_SequenceRepeats_loop2 L v K (K false) (r.length + 1) (pre.length : Int) = K (decide (v ∈ r))
  | [], pre, e => by
    rw [law14_SequenceRepeats_loop2, end_mid e]
    simp
  | y :: r, pre, e => by
    obtain ⟨h1, h2, h3, h4, h5⟩ := step_mid e (by omega)
    have ih := seen_loop L v K hl hs r (pre ++ [y]) h4
    have hy := hs y (by rw [e]; simp)
    rw [law14_SequenceRepeats_loop2, h1, if_pos rfl, h2, Option.bind_some, rsb_eq _ _ (by omega), Option.bind_some, h3, List.length_cons, ih]
    by_cases hq : y = v
    · rw [if_pos (by simpa using hq), decide_eq_true (by omega : (pre.length : Int) ≥ 0), decide_eq_true (by simp [hq])]
    · rw [if_neg (by simpa using hq)]
      congr 1
      rw [Bool.eq_iff_iff, decide_eq_true_eq, decide_eq_true_eq, List.mem_cons]
      exact ⟨.inr, fun q => q.resolve_left (fun w => hq w.symm)⟩
theorem rl1 (s : Sequence) (R : RightS s) (K : Option Bool) : ∀ (m i : Nat), i + m = s.steps.length → law14_SequenceRepeats_loop1 s (repF s s.steps.length, 0) K (m + 1) (i : Int) ((List.range i).map (beh s)) = K
  | 0, i, h => by
    rw [law14_SequenceRepeats_loop1, if_neg (by rw [decide_eq_true_eq]; omega)]
  | m + 1, i, h => by
    have l1 := R.l1
    have n1 := R.n1
    have ih := rl1 s R K m (i + 1) (by omega)
    have hrl := repF_len s s.steps.length
    rw [law14_SequenceRepeats_loop1, if_pos (by rw [decide_eq_true_eq]; omega), rbehind_eq s R i (by omega)]
    unfold joinK
    dsimp only
    rw [Option.bind_some, fuel0]
    refine Eq.trans (seen_loop ((List.range i).map (beh s)) (beh s i) (fun c2 => (slices_Contains_intint (repF s s.steps.length) (i : Int)).bind fun r7 => if (!(c2 == r7)) = true then some false else (appO 24 ((List.range i).map (beh s)) ([beh s i] : List (List Bool))).bind fun _ => law14_SequenceRepeats_loop1 s (repF s s.steps.length, 0) K (m + 1) (IntKind.wrap .i64 ((i : Int) + 1)) ((List.range i).map (beh s) ++ ([beh s i] : List (List Bool)))) (by simp; omega) (fun x hx => by
      obtain ⟨j, _, rfl⟩ := List.mem_map.1 hx
      rw [beh_len]; omega) _ [] rfl) ?_
    have hd : decide ((i : Int) ∈ repF s s.steps.length) = repAt s i := by
      rw [Bool.eq_iff_iff, decide_eq_true_eq, repF_mem]
      exact ⟨fun q => q.2, fun q => ⟨by omega, q⟩⟩
    have hd2 : decide (beh s i ∈ (List.range i).map (beh s)) = repAt s i := rfl
    rw [inI_eq _ _ (by omega), Option.bind_some, hd, hd2, if_neg (by simp), appO_ok (by simp; omega) (by decide), Option.bind_some, wrap64 (by omega) (by omega), show (i : Int) + 1 = ((i + 1 : Nat) : Int) by omega]
    rw [List.range_succ, List.map_append] at ih
    exact ih
theorem rl3 (s : Sequence) (R : RightS s) (K : Option Bool) (hl : (repF s s.steps.length).length ≤ 64) : ∀ (r pre : List Int), repF s s.steps.length = pre ++ r → law14_SequenceRepeats_loop3 s (repF s s.steps.length, 0) K (r.length + 1) (pre.length : Int) = K
  | [], pre, e => by
    rw [law14_SequenceRepeats_loop3]
    dsimp only
    rw [end_mid e]
    simp
  | y :: r, pre, e => by
    obtain ⟨h1, h2, h3, h4, h5⟩ := step_mid e (by omega)
    have hm : y ∈ repF s s.steps.length := by rw [e]; simp
    have hy : ∃ k : Nat, y = (k : Int) ∧ 1 ≤ k ∧ k < s.steps.length := by
      have hm2 := hm
      unfold repF at hm2
      obtain ⟨k, hk, rfl⟩ := List.mem_map.1 hm2
      obtain ⟨hk1, hk2⟩ := List.mem_filter.1 hk
      refine ⟨k, rfl, ?_, List.mem_range.1 hk1⟩
      cases k with
      | zero => simp [repAt] at hk2
      | succ k => omega
    obtain ⟨k, hk, hk1, hk2⟩ := hy
    rw [law14_SequenceRepeats_loop3]
    dsimp only
    rw [h1, if_pos rfl, h2, Option.bind_some, if_neg (by simp; omega), h3]
    exact rl3 s R K hl r (pre ++ [y]) h4
theorem law_SequenceRepeats (s : Sequence) : law14_SequenceRepeats s = some true := by
  unfold law14_SequenceRepeats
  obtain ⟨b, hb, hr⟩ := right_eq s
  rw [hb, Option.bind_some, awake14]
  cases b
  · rfl
  · obtain ⟨R, hc⟩ := hr rfl
    have l1 := R.l1
    have hrl := repF_len s s.steps.length
    have hn : repR s = (repF s s.steps.length, 0) := by unfold repR; rw [if_neg (fun q => q hc)]
    rw [if_neg (by simp), lrep_eq, hn, Option.bind_some]
    dsimp only
    rw [sorted_eq _ (by omega) (repF_sorted s _)]
    simp only [Option.bind_some, bne_self_eq_false, Bool.false_eq_true, if_false, Bool.not_true]
    unfold joinK
    dsimp only
    rw [fuel0]
    refine Eq.trans (rl1 s R _ s.steps.length 0 (by omega)) ?_
    refine Eq.trans (rl3 s R _ (by omega) (repF s s.steps.length) [] rfl) ?_
    rfl
end Go.Proofs.YtbhcojijafbdiaaGreatDoor.W
