/- The plain laws of sequences, fourth part: accepted words, repeats, texts. No program in sight. -/
import Derived.Test.YtbhcojijafbdiaaGreatDoorLawJ
set_option linter.unusedVariables false
set_option linter.unusedSimpArgs false
set_option maxHeartbeats 2000000
namespace Go.Proofs.YtbhcojijafbdiaaGreatDoor.W
open Go Go.RowKit
/-! ### words -/
def takesB : List Step → List Stroke → Bool
  | [], w => decide (w.length = 0)
  | x :: r, w => decide (x.strokes.length ≤ w.length) && (x.strokes.all fun y => decide (y ∈ w.take x.strokes.length)) && takesB r (w.drop x.strokes.length)
theorem part_pre {α : Type} {l : List α} {n : Nat} (h : n ≤ l.length) : part? l 0 (n : Int) = some (l.take n) := by
  unfold part?
  rw [if_pos ⟨by omega, by omega, by omega⟩]
  simp
theorem part_suf {α : Type} {l : List α} {n : Nat} (h : n ≤ l.length) : part? l (n : Int) (l.length : Int) = some (l.drop n) := by
  unfold part?
  rw [if_pos ⟨by omega, by omega, by omega⟩, List.take_of_length_le (by simp)]
  simp
theorem part_mid {α : Type} {l : List α} {i n : Nat} (h : i + n ≤ l.length) : part? l (i : Int) ((i + n : Nat) : Int) = some ((l.drop i).take n) := by
  unfold part?
  rw [if_pos ⟨by omega, by omega, by omega⟩, show ((i + n : Nat) : Int).toNat - (i : Int).toNat = n by omega]
  simp
theorem lacc2 (w : List Stroke) (x : Step) (K : Option (Bool × Int)) (hw : w.length ≤ 100000) (hl : x.strokes.length ≤ w.length) : ∀ (r pre : List Stroke), x.strokes = pre ++ r →
    sequence_Accepts_loop2 w x K (r.length + 1) (pre.length : Int) = if (r.all fun y => decide (y ∈ w.take x.strokes.length)) = true then K else some (false, 0)
  | [], pre, e => by
    rw [sequence_Accepts_loop2, end_mid e]
    simp
  | y :: r, pre, e => by
    obtain ⟨h1, h2, h3, h4, h5⟩ := step_mid e (by omega)
    have ih := lacc2 w x K hw hl r (pre ++ [y]) h4
    rw [sequence_Accepts_loop2, h1, if_pos rfl, h2, Option.bind_some, part_pre hl, Option.bind_some, inS_eq _ _ (by simp; omega), Option.bind_some, h3, List.length_cons, ih, List.all_cons]
    cases decide (y ∈ w.take x.strokes.length)
    · rw [if_pos (by rfl), Bool.false_and, if_neg (by simp)]
    · rw [if_neg (by simp), Bool.true_and]
theorem lacc1 (s : Sequence) (hl : s.steps.length ≤ 1000) : ∀ (r pre : List Step) (w : List Stroke), s.steps = pre ++ r → w.length ≤ 100000 →
    sequence_Accepts_loop1 s (fun l5 => some (((l5.length : Int) == 0), 0)) (r.length + 1) w (pre.length : Int) = some (takesB r w, 0)
  | [], pre, w, e, hw => by
    rw [sequence_Accepts_loop1, end_mid e, takesB, if_neg (by simp)]
    congr 2
    rw [Bool.eq_iff_iff, beq_iff_eq, decide_eq_true_eq]
    omega
  | y :: r, pre, w, e, hw => by
    obtain ⟨h1, h2, h3, h4, h5⟩ := step_mid e (by omega)
    rw [sequence_Accepts_loop1, h1, if_pos rfl, h2]
    unfold joinK
    dsimp only
    rw [Option.bind_some, h3, List.length_cons, takesB]
    by_cases hq : y.strokes.length ≤ w.length
    · rw [if_neg (by rw [decide_eq_true_eq]; omega), fuel0]
      have q := lacc2 w y ((part? w (y.strokes.length : Int) (w.length : Int)).bind fun l3 => sequence_Accepts_loop1 s (fun l5 => some (((l5.length : Int) == 0), 0)) (r.length + 1) l3 ((pre ++ [y]).length : Int)) hw hq y.strokes [] rfl
      refine Eq.trans q ?_
      rw [part_suf hq, Option.bind_some, lacc1 s hl r (pre ++ [y]) _ h4 (by simp; omega), decide_eq_true hq, Bool.true_and]
      cases (y.strokes.all fun z => decide (z ∈ w.take y.strokes.length)) <;> simp
    · rw [if_pos (by rw [decide_eq_true_eq]; omega), decide_eq_false hq]
      rfl
theorem rcount_loop (l : List Stroke) (x : Stroke) (hl : l.length ≤ 100000) : ∀ (r pre : List Stroke), l = pre ++ r → ref14_count_loop1 l x (fun i4 => some i4) (r.length + 1) ((pre.count x : Nat) : Int) (pre.length : Int) = some ((l.count x : Nat) : Int)
  | [], pre, e => by
    rw [ref14_count_loop1, end_mid e, e]
    simp
  | y :: r, pre, e => by
    obtain ⟨h1, h2, h3, h4, h5⟩ := step_mid e (by omega)
    have ih := rcount_loop l x hl r (pre ++ [y]) h4
    have hc := List.count_le_length (a := x) (l := pre)
    rw [ref14_count_loop1, h1, if_pos rfl, h2]
    unfold joinK
    dsimp only
    rw [Option.bind_some, h3, List.length_cons, ← ih, List.count_append, List.count_singleton]
    by_cases hq : y = x
    · rw [if_pos (by simpa using hq), if_pos (by simpa using hq), wrap64 (by omega) (by omega)]
      rfl
    · rw [if_neg (by simpa using hq), if_neg (by simpa using hq)]
      rfl
theorem rcount_eq (l : List Stroke) (x : Stroke) (hl : l.length ≤ 100000) : ref14_count l x = some ((l.count x : Nat) : Int) := by
  unfold ref14_count joinK
  dsimp only
  rw [fuel0]
  exact rcount_loop l x hl l [] rfl
theorem count_of_sub : ∀ (l w : List Stroke), l.Nodup → w.length = l.length → (∀ y ∈ l, y ∈ w) → ∀ z, w.count z = l.count z
  | [], w, _, h, _, z => by
    have : w = [] := List.length_eq_zero_iff.1 h
    rw [this]
  | y :: l, w, hn, h, hs, z => by
    have hy := hs y (by simp)
    obtain ⟨hn1, hn2⟩ := List.nodup_cons.1 hn
    have hw : 0 < w.length := List.length_pos_of_mem hy
    have ih := count_of_sub l (w.erase y) hn2 (by rw [List.length_erase_of_mem hy, h]; simp) (fun v hv => (List.mem_erase_of_ne (fun q => by subst q; exact hn1 hv)).2 (hs v (by simp [hv]))) z
    rw [List.count_cons, ← ih]
    by_cases hq : y = z
    · subst hq
      rw [List.count_erase_self]
      have : 0 < w.count y := List.count_pos_iff.2 hy
      simp
      omega
    · rw [List.count_erase_of_ne (fun q => hq q.symm)]
      simp [hq]
theorem asc_nodup : ∀ {r : List Stroke} {last : Int}, Asc last r → r.Nodup
  | [], _, _ => List.nodup_nil
  | y :: r, last, h => by
    refine List.nodup_cons.2 ⟨fun q => ?_, asc_nodup h.2.2.2⟩
    have := (asc_mem h.2.2.2 y q).2.2
    omega
theorem racc2 (w : List Stroke) (at_ : Nat) (x : Step) (K : Option Bool) (hw : w.length ≤ 100000) (hl : at_ + x.strokes.length ≤ w.length) : ∀ (r pre : List Stroke), x.strokes = pre ++ r →
    ref14_Takes_loop2 w (at_ : Int) x K (r.length + 1) (pre.length : Int) = if (r.all fun y => decide (((w.drop at_).take x.strokes.length).count y = 1)) = true then K else some false
  | [], pre, e => by
    rw [ref14_Takes_loop2, end_mid e]
    simp
  | y :: r, pre, e => by
    obtain ⟨h1, h2, h3, h4, h5⟩ := step_mid e (by omega)
    have ih := racc2 w at_ x K hw hl r (pre ++ [y]) h4
    rw [ref14_Takes_loop2, h1, if_pos rfl, wrap64 (by omega) (by omega), show (at_ : Int) + (x.strokes.length : Int) = ((at_ + x.strokes.length : Nat) : Int) by omega, part_mid hl, Option.bind_some, h2, Option.bind_some, rcount_eq _ _ (by simp; omega), Option.bind_some, h3, List.length_cons, ih, List.all_cons]
    by_cases hq : ((w.drop at_).take x.strokes.length).count y = 1
    · rw [if_neg (by simp; omega), decide_eq_true hq, Bool.true_and]
    · rw [if_pos (by simp; omega), decide_eq_false hq, Bool.false_and, if_neg (by simp)]
theorem takes_iff {x : Step} {w : List Stroke} (g : GoodS x) (h : x.strokes.length ≤ w.length) : (x.strokes.all fun y => decide ((w.take x.strokes.length).count y = 1)) = x.strokes.all fun y => decide (y ∈ w.take x.strokes.length) := by
  rw [Bool.eq_iff_iff, List.all_eq_true, List.all_eq_true]
  constructor
  · intro q y hy
    have := of_decide_eq_true (q y hy)
    exact decide_eq_true (List.count_pos_iff.1 (by omega))
  · intro q y hy
    have hn := asc_nodup g.asc
    rw [decide_eq_true_eq, count_of_sub x.strokes (w.take x.strokes.length) hn (by simp; omega) (fun z hz => of_decide_eq_true (q z hz)) y]
    have h1 : 0 < x.strokes.count y := List.count_pos_iff.2 hy
    have h2 := List.nodup_iff_count.1 hn y
    omega
theorem racc1 (s : Sequence) (w : List Stroke) (hw : w.length ≤ 100000) (hl : s.steps.length ≤ 1000) (hg : ∀ x ∈ s.steps, GoodS x) : ∀ (r pre : List Step) (at_ : Nat), s.steps = pre ++ r → at_ ≤ w.length →
    ref14_Takes_loop1 s w (fun i5 => some (i5 == (w.length : Int))) (r.length + 1) (at_ : Int) (pre.length : Int) = some (takesB r (w.drop at_))
  | [], pre, at_, e, ha => by
    rw [ref14_Takes_loop1, end_mid e, takesB, if_neg (by simp)]
    congr 1
    rw [Bool.eq_iff_iff, beq_iff_eq, decide_eq_true_eq, List.length_drop]
    omega
  | y :: r, pre, at_, e, ha => by
    obtain ⟨h1, h2, h3, h4, h5⟩ := step_mid e (by omega)
    have g := hg y (by rw [e]; simp)
    have hf := g.few
    rw [ref14_Takes_loop1, h1, if_pos rfl, h2]
    unfold joinK
    dsimp only
    rw [Option.bind_some, h3, List.length_cons, takesB, wrap64 (by omega) (by omega), show (at_ : Int) + (y.strokes.length : Int) = ((at_ + y.strokes.length : Nat) : Int) by omega]
    by_cases hq : y.strokes.length ≤ (w.drop at_).length
    · have hq2 : at_ + y.strokes.length ≤ w.length := by rw [List.length_drop] at hq; omega
      rw [if_neg (by rw [decide_eq_true_eq]; omega), fuel0]
      refine Eq.trans (racc2 w at_ y _ hw hq2 y.strokes [] rfl) ?_
      rw [racc1 s w hw hl hg r (pre ++ [y]) _ h4 hq2, decide_eq_true hq, Bool.true_and, takes_iff g hq, List.drop_drop]
      cases (y.strokes.all fun z => decide (z ∈ (w.drop at_).take y.strokes.length)) <;> simp
    · rw [List.length_drop] at hq
      rw [if_pos (by rw [decide_eq_true_eq]; omega), decide_eq_false (by rw [List.length_drop]; exact hq)]
      rfl
def accR (s : Sequence) (w : List Stroke) : Bool × Int := if checkE s ≠ 0 then (false, checkE s) else (takesB s.steps w, 0)
theorem acc_eq (s : Sequence) (w : List Stroke) (hw : w.length ≤ 100000) : sequence_Accepts s w = some (accR s w) ∧ ref14_Accepts s w = some (accR s w) := by
  unfold sequence_Accepts ref14_Accepts accR
  rw [lcheck14, rcheck14, Option.bind_some, Option.bind_some]
  by_cases h : checkE s = 0
  · have R := checkE_zero h
    have l1 := R.l1
    have hn : ¬ checkE s ≠ 0 := fun q => q h
    have c1 : ¬ (checkE s != 0) = true := by simpa using h
    rw [if_neg c1, if_neg c1, if_neg hn]
    unfold ref14_Takes joinK
    dsimp only
    rw [fuel0]
    refine ⟨lacc1 s (by omega) s.steps [] w rfl hw, ?_⟩
    refine Eq.trans (congrArg (fun o => Option.bind o _) (racc1 s w hw (by omega) (fun x hx => (R.good x hx).1) s.steps [] 0 rfl (by omega))) ?_
    rfl
  · have c1 : (checkE s != 0) = true := by simpa using h
    rw [if_pos c1, if_pos c1, if_pos h]
    exact ⟨rfl, rfl⟩
theorem law_SequenceAccepts (s : Sequence) (w : List Stroke) : law14_SequenceAccepts s w = some true := by
  unfold law14_SequenceAccepts
  obtain ⟨b, hb, hf⟩ := few14 s
  rw [hb, Option.bind_some, awake14]
  by_cases h : w.length ≤ 1000
  · obtain ⟨h1, h2⟩ := acc_eq s w (by omega)
    rw [h1, h2]
    cases b
    · simp
    · rw [if_neg (by simp; omega)]
      simp
  · rw [if_pos (by simp; omega)]
    rfl
/-! ### repeats -/
/-- are the ends before this step those before an earlier one? -/
def repAt (s : Sequence) (i : Nat) : Bool := decide (beh s i ∈ (List.range i).map (beh s))
def repF (s : Sequence) (i : Nat) : List Int := ((List.range i).filter (repAt s)).map fun k : Nat => (k : Int)
theorem repF_succ (s : Sequence) (i : Nat) : repF s (i + 1) = if repAt s i = true then repF s i ++ [(i : Int)] else repF s i := by
  unfold repF
  rw [List.range_succ, List.filter_append, List.map_append]
  cases h : repAt s i <;> simp [h]
theorem repF_len (s : Sequence) (i : Nat) : (repF s i).length ≤ i := by
  unfold repF
  rw [List.length_map]
  exact Nat.le_trans (List.length_filter_le _ _) (by simp)
theorem beh_succ {s : Sequence} {i : Nat} (h : i < s.steps.length) : beh s (i + 1) = setL (beh s i) s.steps[i].strokes := by
  unfold beh
  rw [List.take_succ_eq_append_getElem h, behL_app]
  rfl
theorem beh_fit {s : Sequence} (R : RightS s) {i : Nat} (h : i < s.steps.length) : suitsB s.steps[i] (beh s i) = true := by
  refine R.fit (s.steps.take i) _ (s.steps.drop (i + 1)) ?_
  rw [← List.drop_eq_getElem_cons h, List.take_append_drop]
theorem in_six {s : Sequence} {i : Nat} {z : List Bool} {x : Ends6} {L : List Ends6} (hx : x.l = beh s i ++ z) (hL : L.map Ends6.l = (List.range i).map fun j => beh s j ++ z) : decide (x ∈ L) = repAt s i := by
  unfold repAt
  rw [Bool.eq_iff_iff, decide_eq_true_eq, decide_eq_true_eq, List.mem_map]
  constructor
  · intro h
    have h2 : x.l ∈ L.map Ends6.l := List.mem_map.2 ⟨x, h, rfl⟩
    rw [hL, List.mem_map] at h2
    obtain ⟨j, h3, h4⟩ := h2
    exact ⟨j, h3, List.append_cancel_right (h4.trans hx)⟩
  · rintro ⟨j, h3, h4⟩
    have h2 : x.l ∈ L.map Ends6.l := by rw [hL, List.mem_map]; exact ⟨j, h3, by rw [hx, ← h4]⟩
    obtain ⟨y, h5, h6⟩ := List.mem_map.1 h2
    rw [← l_inj h6]
    exact h5
theorem lrep_loop (s : Sequence) (R : RightS s) (z : List Bool) (K : Bool → Bool → Bool → Bool → Bool → Bool → List Ends6 → List Int → Option (List Int × Int)) (hK : ∀ c1 c2 c3 c4 c5 c6 l2 l3, l2.length ≤ 64 → K c1 c2 c3 c4 c5 c6 l2 l3 = some (l3, 0)) :
    ∀ (r pre : List Step) (x : Ends6) (L : List Ends6), s.steps = pre ++ r → x.l = beh s pre.length ++ z → L.map Ends6.l = ((List.range pre.length).map fun j => beh s j ++ z) →
    sequence_Repeats_loop1 s K (r.length + 1) (pre.length : Int) x.a0 x.a1 x.a2 x.a3 x.a4 x.a5 L (repF s pre.length) = some (repF s s.steps.length, 0)
  | [], pre, x, L, e, hx, hL => by
    have l1 := R.l1
    have hlen : s.steps.length = pre.length := by rw [e]; simp
    have hLl : L.length = pre.length := by have := congrArg List.length hL; simpa using this
    rw [sequence_Repeats_loop1, end_mid e, if_neg (by simp), hK _ _ _ _ _ _ _ _ (by omega), hlen]
  | y :: r, pre, x, L, e, hx, hL => by
    have l1 := R.l1
    obtain ⟨h1, h2, h3, h4, h5⟩ := step_mid e (by omega)
    have hLl : L.length = pre.length := by have := congrArg List.length hL; simpa using this
    have hrl := repF_len s pre.length
    have hi : pre.length < s.steps.length := by omega
    have hy : s.steps[pre.length] = y := by simp [e]
    obtain ⟨hy1, hy2⟩ := right_lt R y (by rw [e]; simp)
    have hs := beh_fit R hi
    rw [hy] at hs
    obtain ⟨g, _⟩ := R.good y (by rw [e]; simp)
    have hx6 : (Ends6.mk x.a0 x.a1 x.a2 x.a3 x.a4 x.a5) = x := rfl
    have hp : (pre ++ [y]).length = pre.length + 1 := by simp
    have ih := lrep_loop s R z K hK r (pre ++ [y]) (run6 x y.strokes) (L ++ [x]) h4 (by
      rw [run6_l _ _ hy2, hx, setL_app z _ _ (fun w hw => (suits_all g hs w hw).2), hp, beh_succ hi, hy]) (by
      rw [List.map_append, hL, hp, List.range_succ, List.map_append]
      simp [hx])
    rw [sequence_Repeats_loop1, h1, if_pos rfl, h2]
    unfold joinK
    dsimp only
    rw [Option.bind_some, if_pos rfl, h3, List.length_cons, hx6, inE_eq _ _ (by omega), in_six hx hL, Option.bind_some, Option.bind_some]
    rw [hp, repF_succ] at ih
    rw [hp]
    cases hr : repAt s pre.length
    · rw [hr, if_neg (by simp)] at ih
      rw [if_neg (by simp), appO_ok (by simp; omega) (by decide), Option.bind_some, behind_eq x y (by omega) hy2, Option.bind_some]
      exact ih
    · rw [hr, if_pos rfl] at ih
      rw [if_pos rfl, appO_ok (by simp; omega) (by decide), Option.bind_some, appO_ok (by simp; omega) (by decide), Option.bind_some, behind_eq x y (by omega) hy2, Option.bind_some]
      exact ih
def repR (s : Sequence) : List Int × Int := if checkE s ≠ 0 then ([], checkE s) else (repF s s.steps.length, 0)
theorem lrep_eq (s : Sequence) : sequence_Repeats s = some (repR s) := by
  unfold sequence_Repeats repR
  rw [lcheck14, Option.bind_some]
  by_cases h : checkE s = 0
  · have R := checkE_zero h
    have hn : ¬ checkE s ≠ 0 := fun q => q h
    have c1 : ¬ (checkE s != 0) = true := by simpa using h
    rw [if_neg c1, if_neg hn]
    unfold joinK
    dsimp only
    rw [fuel0]
    obtain ⟨z, hz⟩ := zero6 R
    refine lrep_loop s R z _ (fun c1 c2 c3 c4 c5 c6 l2 l3 hl => ?_) s.steps [] (Ends6.mk false false false false false false) [] rfl hz rfl
    rw [if_neg (by simp), Option.bind_some, if_neg (by simp), appO_ok (by simp; omega) (by decide), Option.bind_some]
  · have c1 : (checkE s != 0) = true := by simpa using h
    rw [if_pos c1, if_pos h]
theorem rrep2 (s : Sequence) (R : RightS s) (k : Nat) (hk : k < s.steps.length) (K : Bool → Option (List Int × Int)) : ∀ (m i : Nat), i + m = k →
    ref14_Repeats_loop2 s (k : Int) K (m + 1) (decide (beh s k ∈ (List.range i).map (beh s))) (i : Int) = K (repAt s k)
  | 0, i, h => by
    rw [ref14_Repeats_loop2, if_neg (by rw [decide_eq_true_eq]; omega), ← h]
    rfl
  | m + 1, i, h => by
    have l1 := R.l1
    have n1 := R.n1
    have ih := rrep2 s R k hk K m (i + 1) (by omega)
    rw [List.range_succ, List.map_append] at ih
    rw [ref14_Repeats_loop2, if_pos (by rw [decide_eq_true_eq]; omega), wrap64 (by omega) (by omega), show (i : Int) + 1 = ((i + 1 : Nat) : Int) by omega]
    by_cases hq : beh s k ∈ (List.range i).map (beh s)
    · rw [if_pos (by simpa using hq), ← ih]
      congr 1
      exact (decide_eq_true (List.mem_append.2 (.inl hq))).symm
    · rw [if_neg (by simpa using hq), rbehind_eq s R i (by omega), Option.bind_some, rbehind_eq s R k (by omega), Option.bind_some, rsb_eq _ _ (by rw [beh_len]; omega), Option.bind_some, ← ih]
      congr 1
      rw [Bool.eq_iff_iff, decide_eq_true_eq, decide_eq_true_eq, List.mem_append]
      simp only [List.map_cons, List.map_nil, List.mem_singleton]
      exact ⟨fun q => .inr q.symm, fun q => (q.resolve_left hq).symm⟩
theorem rrep1 (s : Sequence) (R : RightS s) (K : List Int → Option (List Int × Int)) : ∀ (m k : Nat), k + m = s.steps.length → ref14_Repeats_loop1 s K (m + 1) (k : Int) (repF s k) = K (repF s s.steps.length)
  | 0, k, h => by
    rw [ref14_Repeats_loop1, if_neg (by rw [decide_eq_true_eq]; omega), ← h]
    rfl
  | m + 1, k, h => by
    have l1 := R.l1
    have ih := rrep1 s R K m (k + 1) (by omega)
    have hrl := repF_len s k
    rw [ref14_Repeats_loop1, if_pos (by rw [decide_eq_true_eq]; omega), wrap64 (by omega) (by omega), show (k : Int) + 1 = ((k + 1 : Nat) : Int) by omega]
    unfold joinK
    dsimp only
    rw [show Int.toNat ((k : Int) - 0) = k by omega]
    refine Eq.trans (rrep2 s R k (by omega) _ k 0 (by omega)) ?_
    rw [repF_succ] at ih
    cases hr : repAt s k
    · rw [hr, if_neg (by simp)] at ih
      rw [if_neg (by simp)]
      exact ih
    · rw [hr, if_pos rfl] at ih
      rw [if_pos rfl, appO_ok (by simp; omega) (by decide), Option.bind_some]
      exact ih
theorem repF_one (s : Sequence) : repF s 1 = [] := by rw [show 1 = 0 + 1 from rfl, repF_succ]; simp [repAt, repF]
theorem rrep_eq (s : Sequence) : ref14_Repeats s = some (repR s) := by
  unfold ref14_Repeats repR
  rw [rcheck14, Option.bind_some]
  by_cases h : checkE s = 0
  · have R := checkE_zero h
    have l0 : 0 < s.steps.length := List.length_pos_iff.2 R.l0
    have hn : ¬ checkE s ≠ 0 := fun q => q h
    have c1 : ¬ (checkE s != 0) = true := by simpa using h
    rw [if_neg c1, if_neg hn]
    unfold joinK
    dsimp only
    have q := rrep1 s R (fun l4 => some (l4, 0)) (s.steps.length - 1) 1 (by omega)
    rw [repF_one] at q
    rw [show Int.toNat ((s.steps.length : Int) - 1) = s.steps.length - 1 by omega]
    exact q
  · have c1 : (checkE s != 0) = true := by simpa using h
    rw [if_pos c1, if_pos h]
theorem repR_len (s : Sequence) : (repR s).1.length ≤ 64 := by
  unfold repR
  split
  · simp
  · rename_i h
    have R := checkE_zero (Decidable.not_not.1 h)
    have := R.l1
    have := repF_len s s.steps.length
    dsimp only
    omega
theorem law_SequenceEnds (s : Sequence) (k : Int) : law14_SequenceEnds s k = some true := by
  unfold law14_SequenceEnds
  obtain ⟨b, hb, hf⟩ := few14 s
  have h1 := endsR_len s k
  have h2 := movesR_len s k
  have h3 := repR_len s
  rw [hb, Option.bind_some, awake14, lends_eq, rends_eq, lmoves_eq, rmoves14_eq, lrep_eq, rrep_eq]
  cases b
  · simp
  · simp [eqB_eq _ (show (endsR s k).1.length ≤ 100000 by omega), eqI_eq _ (show (movesR s k).1.length ≤ 100000 by omega), eqI_eq _ (show (repR s).1.length ≤ 100000 by omega)]
end Go.Proofs.YtbhcojijafbdiaaGreatDoor.W
