/- The plain laws of sequences, sixth part: SequenceReturns, SequenceWords. No program in sight. -/
import Derived.Test.YtbhcojijafbdiaaGreatDoorLawL
set_option linter.unusedVariables false
set_option linter.unusedSimpArgs false
set_option maxHeartbeats 2000000
namespace Go.Proofs.YtbhcojijafbdiaaGreatDoor.W
open Go Go.RowKit
theorem ret1 (s : Sequence) (R : RightS s) (hc : checkE s = 0) (K : List Bool → Option Bool) : ∀ (r pre : List Step), s.steps = pre ++ r → law14_SequenceReturns_loop1 s K (r.length + 1) (beh s pre.length) (pre.length : Int) = K (beh s s.steps.length)
  | [], pre, e => by
    rw [law14_SequenceReturns_loop1, end_mid e, if_neg (by simp), e]
    simp
  | x :: r, pre, e => by
    have l1 := R.l1
    have n1 := R.n1
    obtain ⟨h1, h2, h3, h4, h5⟩ := step_mid e (by omega)
    have hi : pre.length < s.steps.length := by omega
    have hx : s.steps[pre.length] = x := by simp [e]
    have hs := beh_fit R hi
    rw [hx] at hs
    obtain ⟨g, _⟩ := R.good x (by rw [e]; simp)
    have hb := beh_len s pre.length
    have he : endsR s (pre.length : Int) = (beh s pre.length, 0) := by
      unfold endsR
      rw [if_neg (fun q => q hc), if_pos ⟨by omega, by omega⟩]
      rfl
    have ha : applyR x (beh s pre.length) = (setL (beh s pre.length) x.strokes, 0) := by
      unfold applyR
      rw [given_zero.2 ⟨g, by omega⟩, if_neg (fun q => q rfl), if_pos hs]
    have ih := ret1 s R hc K r (pre ++ [x]) h4
    have hp : (pre ++ [x]).length = pre.length + 1 := by simp
    rw [hp] at ih h3
    rw [beh_succ hi, hx] at ih
    rw [law14_SequenceReturns_loop1, h1, if_pos rfl, h2, Option.bind_some, lends_eq, Option.bind_some, lapply_eq, Option.bind_some, he, ha, h3]
    dsimp only
    rw [eqB_eq _ (by omega)]
    have hw : (IntKind.wrap .i64 ((0 : Int) + 0) != 0) = false := by decide
    simp only [hw, Bool.false_eq_true, if_false, Option.bind_some, Bool.not_true]
    exact ih
theorem mvsF_app (a : Int) : ∀ (p q : List Step) (i : Nat), mvsF a i (p ++ q) = mvsF a i p ++ mvsF a (i + p.length) q
  | [], q, i => by simp [mvsF]
  | x :: p, q, i => by
    rw [List.cons_append, mvsF, mvsF, mvsF_app a p q (i + 1)]
    rw [show i + 1 + p.length = i + (x :: p).length by simp; omega]
    split <;> rfl
theorem mv_fact (s : Sequence) (R : RightS s) (a : Nat) (ha : a < s.actuators.toNat) : ∀ (i : Nat), i ≤ s.steps.length →
    ((mvsF (a : Int) 0 (s.steps.take i)).length % 2 = 1 ↔ (beh s i)[a]? = some true) ∧
    ∀ (k : Nat) (v : Int), (mvsF (a : Int) 0 (s.steps.take i))[k]? = some v → ∃ (j : Nat) (x : Step), j < i ∧ v = (j : Int) ∧ s.steps[j]? = some x ∧ wayS (a : Int) x.strokes = if k % 2 = 0 then 1 else -1
  | 0, _ => by
    have hz : (beh s 0)[a]? = some false := by
      unfold beh behL zeros
      simp [ha]
    rw [hz]
    simp [mvsF]
  | i + 1, h => by
    obtain ⟨h1, h2⟩ := mv_fact s R a ha i (by omega)
    have hi : i < s.steps.length := by omega
    obtain ⟨g, _⟩ := R.good s.steps[i] (List.getElem_mem hi)
    have hs := beh_fit R hi
    have hb := beh_len s i
    have hget := setL_get s.steps[i].strokes (-1) (beh s i) g.asc a (by omega)
    have hl : (s.steps.take i).length = i := by simp; omega
    rw [List.take_succ_eq_append_getElem hi, mvsF_app, hl, Nat.zero_add, beh_succ hi, hget]
    have hM : mvsF (a : Int) i [s.steps[i]] = if wayS (a : Int) s.steps[i].strokes != 0 then [(i : Int)] else [] := by
      rw [mvsF, way_any]
      rfl
    rw [hM]
    rcases way_mem (a : Int) s.steps[i].strokes with ⟨hw, y, hy, hy1, hy2⟩ | ⟨hw, y, hy, hy1, hy2⟩ | hw
    · have hq := suits_at hs hy hy1
      rw [hy2] at hq
      rw [hq] at h1
      have hev : (mvsF (a : Int) 0 (s.steps.take i)).length % 2 = 0 := by
        have : ¬ (mvsF (a : Int) 0 (s.steps.take i)).length % 2 = 1 := fun q => by have := h1.1 q; simp at this
        omega
      rw [hw]
      refine ⟨?_, fun k v hk => ?_⟩
      · simp; omega
      · simp only [show ((1 : Int) != 0) = true by decide, if_true] at hk
        rw [List.getElem?_append] at hk
        split at hk
        · obtain ⟨j, x, q1, q2, q3, q4⟩ := h2 k v hk
          exact ⟨j, x, by omega, q2, q3, q4⟩
        · rename_i hkn
          have hk0 : k = (mvsF (a : Int) 0 (s.steps.take i)).length := by
            rcases Nat.eq_zero_or_pos (k - (mvsF (a : Int) 0 (s.steps.take i)).length) with q | q
            · omega
            · rw [List.getElem?_eq_none (by simp; omega)] at hk; cases hk
          rw [hk0] at hk
          simp at hk
          refine ⟨i, s.steps[i], by omega, hk.symm, List.getElem?_eq_getElem hi, ?_⟩
          rw [hw, hk0, hev]
          rfl
    · have hq := suits_at hs hy hy1
      rw [hy2] at hq
      rw [hq] at h1
      have hev : (mvsF (a : Int) 0 (s.steps.take i)).length % 2 = 1 := h1.2 rfl
      rw [hw]
      refine ⟨?_, fun k v hk => ?_⟩
      · simp; omega
      · simp only [show ((-1 : Int) != 0) = true by decide, if_true] at hk
        rw [List.getElem?_append] at hk
        split at hk
        · obtain ⟨j, x, q1, q2, q3, q4⟩ := h2 k v hk
          exact ⟨j, x, by omega, q2, q3, q4⟩
        · rename_i hkn
          have hk0 : k = (mvsF (a : Int) 0 (s.steps.take i)).length := by
            rcases Nat.eq_zero_or_pos (k - (mvsF (a : Int) 0 (s.steps.take i)).length) with q | q
            · omega
            · rw [List.getElem?_eq_none (by simp; omega)] at hk; cases hk
          rw [hk0] at hk
          simp at hk
          refine ⟨i, s.steps[i], by omega, hk.symm, List.getElem?_eq_getElem hi, ?_⟩
          rw [hw, hk0, hev]
          rfl
    · rw [hw]
      simp only [show ((0 : Int) != 0) = false by decide, Bool.false_eq_true, if_false, List.append_nil]
      refine ⟨by rw [h1]; simp, fun k v hk => ?_⟩
      obtain ⟨j, x, q1, q2, q3, q4⟩ := h2 k v hk
      exact ⟨j, x, by omega, q2, q3, q4⟩
theorem mvsF_ne (a : Int) : ∀ (r : List Step) (i : Nat), (flat r).any (·.actuator == a) = true → mvsF a i r ≠ []
  | [], i, h => by simp [flat] at h
  | x :: r, i, h => by
    rw [mvsF]
    split
    · simp
    · rename_i q
      rw [flat_cons, List.any_append, Bool.or_eq_true] at h
      exact mvsF_ne a r (i + 1) (h.resolve_left q)
theorem mv_ne (s : Sequence) (R : RightS s) (a : Nat) (ha : a < s.actuators.toNat) : mvsF (a : Int) 0 s.steps ≠ [] := by
  exact mvsF_ne _ _ _ (List.all_eq_true.1 R.all a (List.mem_range.2 ha))
theorem mv_even (s : Sequence) (R : RightS s) (a : Nat) (ha : a < s.actuators.toNat) : (mvsF (a : Int) 0 s.steps).length % 2 = 0 := by
  have h := (mv_fact s R a ha s.steps.length (Nat.le_refl _)).1
  rw [List.take_length] at h
  have : ¬ (mvsF (a : Int) 0 s.steps).length % 2 = 1 := fun q => by
    have := h.1 q
    have hm : true ∈ beh s s.steps.length := List.mem_of_getElem? this
    unfold beh at hm
    rw [List.take_length] at hm
    exact R.last hm
  omega
theorem ret3 (s : Sequence) (R : RightS s) (a : Nat) (ha : a < s.actuators.toNat) (K : Option Bool) : ∀ (r pre : List Int), mvsF (a : Int) 0 s.steps = pre ++ r → law14_SequenceReturns_loop3 s (a : Int) K (mvsF (a : Int) 0 s.steps, 0) (r.length + 1) (pre.length : Int) = K
  | [], pre, e => by
    rw [law14_SequenceReturns_loop3]
    dsimp only
    rw [end_mid e]
    simp
  | v :: r, pre, e => by
    have l1 := R.l1
    have n1 := R.n1
    have hml := mvsF_len (a : Int) s.steps 0
    obtain ⟨h1, h2, h3, h4, h5⟩ := step_mid e (by omega)
    obtain ⟨j, x, q1, q2, q3, q4⟩ := (mv_fact s R a ha s.steps.length (Nat.le_refl _)).2 pre.length v (by rw [List.take_length, e]; simp)
    have hat : at? s.steps v = some x := by unfold at?; rw [if_pos (by omega), q2]; exact q3
    have hm : x ∈ s.steps := List.mem_of_getElem? q3
    obtain ⟨g, _⟩ := R.good x hm
    have hh : hasR x (a : Int) = (wayS (a : Int) x.strokes, 0) := by
      unfold hasR
      rw [if_neg (fun q => q (chk_zero.2 g)), if_pos ⟨by omega, by omega⟩]
    rw [law14_SequenceReturns_loop3]
    dsimp only
    rw [h1, if_pos rfl, h2, Option.bind_some, if_neg (by simp; omega), hat, Option.bind_some, lhas_eq, Option.bind_some, hh, q4, h3]
    have ht : Int.tmod (pre.length : Int) 2 = ((pre.length % 2 : Nat) : Int) := by rw [Int.tmod_eq_emod_of_nonneg (by omega)]; omega
    rw [ht]
    have hfin := ret3 s R a ha K r (pre ++ [v]) h4
    rcases Nat.mod_two_eq_zero_or_one pre.length with h0 | h0
    · rw [h0]; exact hfin
    · rw [h0]; exact hfin
theorem ret2 (s : Sequence) (R : RightS s) (hc : checkE s = 0) (K : Option Bool) : ∀ (m i : Nat), i + m = s.actuators.toNat → law14_SequenceReturns_loop2 s K (m + 1) (i : Int) = K
  | 0, i, h => by
    rw [law14_SequenceReturns_loop2, if_neg (by rw [decide_eq_true_eq]; omega)]
  | m + 1, i, h => by
    have n1 := R.n1
    have ih := ret2 s R hc K m (i + 1) (by omega)
    have hne := mv_ne s R i (by omega)
    have hev := mv_even s R i (by omega)
    have hpos : 0 < (mvsF (i : Int) 0 s.steps).length := List.length_pos_iff.2 hne
    have hm : movesR s (i : Int) = (mvsF (i : Int) 0 s.steps, 0) := by
      unfold movesR
      rw [if_neg (fun q => q hc), if_pos ⟨by omega, by omega⟩]
    rw [law14_SequenceReturns_loop2, if_pos (by rw [decide_eq_true_eq]; omega), wrap64 (by omega) (by omega), show (i : Int) + 1 = ((i + 1 : Nat) : Int) by omega]
    unfold joinK
    dsimp only
    rw [ih, lmoves_eq, Option.bind_some, hm]
    dsimp only
    have ht : Int.tmod ((mvsF (i : Int) 0 s.steps).length : Int) 2 = 0 := by rw [Int.tmod_eq_emod_of_nonneg (by omega)]; omega
    rw [ht, if_neg (by simp; exact hne), fuel0]
    exact ret3 s R i (by omega) K _ [] rfl
theorem law_SequenceReturns (s : Sequence) : law14_SequenceReturns s = some true := by
  unfold law14_SequenceReturns
  obtain ⟨b, hb, hr⟩ := right_eq s
  rw [hb, Option.bind_some, awake14]
  cases b
  · rfl
  · obtain ⟨R, hc⟩ := hr rfl
    have l1 := R.l1
    have n1 := R.n1
    have n0 := R.n0
    have hbl := beh_len s s.steps.length
    have he : endsR s (s.steps.length : Int) = (beh s s.steps.length, 0) := by
      unfold endsR
      rw [if_neg (fun q => q hc), if_pos ⟨by omega, by omega⟩]
      rfl
    have hlast : true ∉ beh s s.steps.length := by unfold beh; rw [List.take_length]; exact R.last
    unfold guardO joinK
    dsimp only
    rw [if_neg (by simp), if_pos (by simp; omega), Option.bind_some, fuel0]
    refine Eq.trans (ret1 s R hc _ s.steps [] rfl) ?_
    rw [lends_eq, Option.bind_some, he]
    dsimp only
    rw [eqB_eq _ (by omega), inB_eq _ _ (by omega), decide_eq_false hlast]
    simp only [bne_self_eq_false, Bool.false_eq_true, if_false, Option.bind_some, Bool.not_true]
    rw [show Int.toNat (s.actuators - 0) = s.actuators.toNat by simp]
    exact ret2 s R hc _ s.actuators.toNat 0 (by omega)
/-! ### words with two strokes exchanged -/
def sw (W : List Stroke) (k : Nat) (a b : Stroke) : List Stroke := (W.set k a).set (k + 1) b
/-- does a step end there? -/
def bnd (t : Nat) (at_ : Nat) : List Step → Bool
  | [] => false
  | x :: r => decide (at_ + x.strokes.length = t) || bnd t (at_ + x.strokes.length) r
theorem bnd_shift (t n : Nat) : ∀ (r : List Step) (at_ : Nat), bnd (t + n) (at_ + n) r = bnd t at_ r
  | [], _ => rfl
  | x :: r, at_ => by
    rw [bnd, bnd, show at_ + n + x.strokes.length = at_ + x.strokes.length + n by omega, bnd_shift t n r]
    congr 1
    rw [Bool.eq_iff_iff, decide_eq_true_eq, decide_eq_true_eq]
    omega
theorem bnd_past {t : Nat} : ∀ (r : List Step) (at_ : Nat), t < at_ → bnd t at_ r = false
  | [], _, _ => rfl
  | x :: r, at_, h => by
    rw [bnd, bnd_past r _ (by omega), decide_eq_false (by omega)]
    rfl
theorem takesB_flat : ∀ r : List Step, takesB r (flat r) = true
  | [] => rfl
  | x :: r => by
    rw [takesB, flat_cons, List.take_left, List.drop_left, takesB_flat r, decide_eq_true (by simp)]
    simp
theorem takesB_len : ∀ (r : List Step) (w : List Stroke), takesB r w = true → w.length = (flat r).length
  | [], w, h => by simpa [takesB, flat] using h
  | x :: r, w, h => by
    rw [takesB, Bool.and_eq_true, Bool.and_eq_true, decide_eq_true_eq] at h
    have := takesB_len r _ h.2
    rw [List.length_drop] at this
    rw [flat_cons, List.length_append]
    omega
theorem sw_mem {l : List Stroke} {k : Nat} {a b y : Stroke} (ha : l[k + 1]? = some a) (hb : l[k]? = some b) (hy : y ∈ l) : y ∈ sw l k a b := by
  obtain ⟨j, hj⟩ := List.getElem?_of_mem hy
  have hk1 : k + 1 < l.length := (List.getElem?_eq_some_iff.1 ha).1
  unfold sw
  by_cases h1 : j = k
  · subst h1
    refine List.mem_of_getElem? (i := j + 1) ?_
    rw [List.getElem?_set_self (by simpa using hk1), ← hb, hj]
  · by_cases h2 : j = k + 1
    · subst h2
      refine List.mem_of_getElem? (i := k) ?_
      rw [List.getElem?_set_ne (by omega), List.getElem?_set_self (by omega), ← ha, hj]
    · refine List.mem_of_getElem? (i := j) ?_
      rw [List.getElem?_set_ne (by omega), List.getElem?_set_ne (by omega), hj]
theorem sw_takes : ∀ (r : List Step) (l : List Bool) (k : Nat) (a b : Stroke), (∀ x ∈ r, GoodS x) → (∀ pre x q, r = pre ++ x :: q → suitsB x (behL l pre) = true) → (flat r)[k + 1]? = some a → (flat r)[k]? = some b →
    takesB r (sw (flat r) k a b) = !bnd (k + 1) 0 r
  | [], l, k, a, b, hg, hs, ha, hb => by simp [flat] at ha
  | x :: r, l, k, a, b, hg, hs, ha, hb => by
    have g := hg x (by simp)
    have hsx := hs [] x r rfl
    have hr : ∀ pre z q, r = pre ++ z :: q → suitsB z (behL (setL l x.strokes) pre) = true := fun pre z q e => hs (x :: pre) z q (by rw [e]; rfl)
    have hne : 0 < x.strokes.length := List.length_pos_iff.2 g.ne
    rw [flat_cons] at ha hb ⊢
    have hk1 : k + 1 < (x.strokes ++ flat r).length := (List.getElem?_eq_some_iff.1 ha).1
    rw [takesB, bnd, Nat.zero_add]
    have hlen : (sw (x.strokes ++ flat r) k a b).length = x.strokes.length + (flat r).length := by simp [sw]
    rw [hlen, decide_eq_true (by omega), Bool.true_and]
    have ht : (sw (x.strokes ++ flat r) k a b).take x.strokes.length = sw x.strokes k a b := by
      unfold sw
      rw [List.take_set, List.take_set, List.take_left]
    rw [ht]
    by_cases h1 : k + 1 < x.strokes.length
    · have hd : (sw (x.strokes ++ flat r) k a b).drop x.strokes.length = flat r := by
        unfold sw
        rw [List.drop_set, if_pos h1, List.drop_set, if_pos (by omega), List.drop_left]
      rw [List.getElem?_append_left h1] at ha
      rw [List.getElem?_append_left (by omega)] at hb
      rw [hd, takesB_flat, Bool.and_true, decide_eq_false (by omega), bnd_past r _ h1, Bool.or_false, Bool.not_false, List.all_eq_true]
      exact fun y hy => decide_eq_true (sw_mem ha hb hy)
    · by_cases h2 : k + 1 = x.strokes.length
      · rw [decide_eq_true h2.symm, Bool.true_or, Bool.not_true]
        -- the last stroke of the step is not there
        have hsw : sw x.strokes k a b = x.strokes.set k a := by
          unfold sw
          exact List.set_eq_of_length_le (by simp; omega)
        rw [hsw]
        have hkl : k < x.strokes.length := by omega
        rw [List.getElem?_append_left hkl] at hb
        have hbm : b ∈ x.strokes := List.mem_of_getElem? hb
        have hbk : x.strokes[k] = b := by rw [List.getElem?_eq_getElem hkl] at hb; exact Option.some.inj hb
        have hno : b ∉ x.strokes.set k a := by
          intro hm
          obtain ⟨j, hj⟩ := List.getElem?_of_mem hm
          by_cases hjk : j = k
          · subst hjk
            rw [List.getElem?_set_self hkl] at hj
            have hab : a = b := Option.some.inj hj
            subst hab
            -- a is the first stroke of the next step
            cases r with
            | nil => rw [List.getElem?_eq_none (by simp [flat]; omega)] at ha; cases ha
            | cons z q =>
              have gz := hg z (by simp)
              have hz0 : 0 < z.strokes.length := List.length_pos_iff.2 gz.ne
              rw [List.getElem?_append_right (by omega), flat_cons, List.getElem?_append_left (by omega)] at ha
              have haz : a ∈ z.strokes := List.mem_of_getElem? ha
              have hsz := hr [] z q rfl
              have hac := (asc_mem g.asc a hbm).1
              have e1 : a.actuator = ((a.actuator.toNat : Nat) : Int) := by omega
              have q1 := suits_at hsz haz e1
              have hlt := (suits_all g hsx a hbm).2
              have q2 := setL_get x.strokes (-1) l g.asc a.actuator.toNat hlt
              have q3 : behL (setL l x.strokes) [] = setL l x.strokes := rfl
              rw [q3, q2] at q1
              -- the way of a in x is that of a
              have hway : wayS (a.actuator.toNat : Int) x.strokes = if a.out then 1 else -1 := by
                have : ∀ (t : List Stroke) (last : Int), Asc last t → a ∈ t → wayS a.actuator t = if a.out then 1 else -1 := by
                  intro t
                  induction t with
                  | nil => intro _ _ h; cases h
                  | cons w t ih =>
                    intro last h hm
                    rw [wayS]
                    rcases List.mem_cons.1 hm with rfl | hm
                    · rw [if_pos rfl]
                    · have := (asc_mem h.2.2.2 a hm).2.2
                      rw [if_neg (by omega)]
                      exact ih _ h.2.2.2 hm
                rw [← e1]
                exact this _ _ g.asc hbm
              rw [hway] at q1
              cases ho : a.out <;> rw [ho] at q1 <;> simp at q1
          · rw [List.getElem?_set_ne (by omega)] at hj
            have hjl := (List.getElem?_eq_some_iff.1 hj).1
            have hn := asc_nodup g.asc
            rw [List.getElem?_eq_getElem hjl] at hj
            have hjb := (Option.some.inj hj).trans hbk.symm
            rcases Nat.lt_or_gt_of_ne hjk with q | q
            · exact List.pairwise_iff_getElem.1 hn j k hjl hkl q hjb
            · exact List.pairwise_iff_getElem.1 hn k j hkl hjl q hjb.symm
        have : (x.strokes.all fun y => decide (y ∈ x.strokes.set k a)) = false := List.all_eq_false.2 ⟨b, hbm, by simpa using hno⟩
        rw [this, Bool.false_and]
      · have h3 : x.strokes.length ≤ k := by omega
        have hsw : sw x.strokes k a b = x.strokes := by
          unfold sw
          rw [List.set_eq_of_length_le h3, List.set_eq_of_length_le (by omega)]
        have hd : (sw (x.strokes ++ flat r) k a b).drop x.strokes.length = sw (flat r) (k - x.strokes.length) a b := by
          unfold sw
          rw [List.drop_set, if_neg (by omega), List.drop_set, if_neg (by omega), List.drop_left, show k + 1 - x.strokes.length = k - x.strokes.length + 1 by omega]
        rw [List.getElem?_append_right (by omega), show k + 1 - x.strokes.length = k - x.strokes.length + 1 by omega] at ha
        rw [List.getElem?_append_right h3] at hb
        have ih := sw_takes r (setL l x.strokes) (k - x.strokes.length) a b (fun z hz => hg z (by simp [hz])) hr ha hb
        have hall : (x.strokes.all fun y => decide (y ∈ x.strokes)) = true := List.all_eq_true.2 fun y hy => decide_eq_true hy
        have hb2 := bnd_shift (k - x.strokes.length + 1) x.strokes.length r 0
        rw [show k - x.strokes.length + 1 + x.strokes.length = k + 1 by omega, Nat.zero_add] at hb2
        rw [hsw, hall, Bool.true_and, hd, ih, decide_eq_false (by omega), Bool.false_or, hb2]
theorem words1 (s : Sequence) (R : RightS s) (which : Int) (r3 : List Stroke × Int) (K : Bool → Option Bool) (t : Nat) (ht : IntKind.wrap .i64 ((Int.tmod (IntKind.wrap .i64 which) (IntKind.wrap .i64 ((r3.1.length : Int) - 1))) + 1) = (t : Int)) : ∀ (r pre : List Step) (at_ : Nat) (c : Bool), s.steps = pre ++ r → at_ ≤ pre.length * 6 →
    law14_SequenceWords_loop1 s which r3 K (r.length + 1) (at_ : Int) c (pre.length : Int) = K (c || bnd t at_ r)
  | [], pre, at_, c, e, ha => by
    rw [law14_SequenceWords_loop1, end_mid e, bnd, Bool.or_false]
    simp
  | x :: r, pre, at_, c, e, ha => by
    have l1 := R.l1
    obtain ⟨h1, h2, h3, h4, h5⟩ := step_mid e (by omega)
    have hx := (right_lt R x (by rw [e]; simp)).1
    rw [law14_SequenceWords_loop1, h1, if_pos rfl, h2, Option.bind_some, h3, ht, wrap64 (x := (at_ : Int) + (x.strokes.length : Int)) (by omega) (by omega), show (at_ : Int) + (x.strokes.length : Int) = ((at_ + x.strokes.length : Nat) : Int) by omega, List.length_cons, bnd]
    rw [words1 s R which r3 K t ht r (pre ++ [x]) _ _ h4 (by simp; omega), Bool.or_assoc]
    congr 2
    congr 1
    rw [Bool.eq_iff_iff, beq_iff_eq, decide_eq_true_eq]
    omega
theorem mvs_flat (a : Int) : ∀ (r : List Step) (i : Nat), (mvsF a i r).length ≤ (flat r).length
  | [], i => by simp [mvsF]
  | x :: r, i => by
    have := mvs_flat a r (i + 1)
    rw [mvsF, flat_cons, List.length_append]
    split
    · rename_i h
      obtain ⟨y, hy, _⟩ := List.any_eq_true.1 h
      have := List.length_pos_of_mem hy
      simp; omega
    · omega
theorem law_SequenceWords (s : Sequence) (which : Int) (w0 : 0 ≤ which) (w1 : which ≤ 255) : law14_SequenceWords s which = some true := by
  unfold law14_SequenceWords
  obtain ⟨b, hb, hr⟩ := right_eq s
  rw [hb, Option.bind_some, awake14]
  cases b
  · rfl
  · obtain ⟨R, hc⟩ := hr rfl
    have l1 := R.l1
    have n1 := R.n1
    have n0 := R.n0
    have hwd : wordR s = (flat s.steps, 0) := by unfold wordR; rw [if_neg (fun q => q hc)]
    have hfl := flat_len s.steps 6 (fun x hx => (right_lt R x hx).1)
    have hacc : ∀ w, accR s w = (takesB s.steps w, 0) := fun w => by unfold accR; rw [if_neg (fun q => q hc)]
    have hge : 2 ≤ (flat s.steps).length := by
      have h1 := mv_even s R 0 (by omega)
      have h2 := List.length_pos_iff.2 (mv_ne s R 0 (by omega))
      have h3 := mvs_flat ((0 : Nat) : Int) s.steps 0
      omega
    rw [if_neg (by simp), (word_eq s).1, hwd, Option.bind_some]
    dsimp only
    rw [(acc_eq s _ (by omega)).1, hacc, takesB_flat, Option.bind_some]
    have hw1 : IntKind.wrap .i64 (((flat s.steps).length : Int) - 1) = (((flat s.steps).length - 1 : Nat) : Int) := by rw [wrap64 (by omega) (by omega)]; omega
    have hw2 : IntKind.wrap .i64 which = which := wrap64 (by omega) (by omega)
    obtain ⟨k, hk, hkt⟩ : ∃ k : Nat, k < (flat s.steps).length - 1 ∧ Int.tmod (IntKind.wrap .i64 which) (IntKind.wrap .i64 (((flat s.steps).length : Int) - 1)) = (k : Int) := by
      rw [hw1, hw2, Int.tmod_eq_emod_of_nonneg w0]
      refine ⟨(which % (((flat s.steps).length - 1 : Nat) : Int)).toNat, ?_, ?_⟩
      · have := Int.emod_lt_of_pos which (show (0 : Int) < (((flat s.steps).length - 1 : Nat) : Int) by omega)
        have := Int.emod_nonneg which (show (((flat s.steps).length - 1 : Nat) : Int) ≠ 0 by omega)
        omega
      · have := Int.emod_nonneg which (show (((flat s.steps).length - 1 : Nat) : Int) ≠ 0 by omega)
        omega
    have hk2 : IntKind.wrap .i64 ((k : Int) + 1) = ((k + 1 : Nat) : Int) := by rw [wrap64 (by omega) (by omega)]; omega
    have c0 : ¬ ((((IntKind.wrap .i64 ((0 : Int) + 0)) != 0) || (!true)) || (decide (((flat s.steps).length : Int) < 2))) = true := by
      rw [decide_eq_false (by omega)]
      decide
    dsimp only
    rw [if_neg c0]
    unfold guardO joinK
    dsimp only
    rw [if_pos (by rw [hw1]; simp; omega), Option.bind_some, fuel0]
    refine Eq.trans (words1 s R which (flat s.steps, 0) _ (k + 1) (by dsimp only; rw [hkt, hk2]) s.steps [] 0 false rfl (by simp)) ?_
    rw [Bool.false_or, appO_ok (by simp; omega) (by decide), Option.bind_some]
    rw [hkt, hk2]
    have hka : (flat s.steps)[k + 1]? = some (flat s.steps)[k + 1] := List.getElem?_eq_getElem (by omega)
    have hkb : (flat s.steps)[k]? = some (flat s.steps)[k] := List.getElem?_eq_getElem (by omega)
    have hk0 : (flat s.steps)[0]? = some (flat s.steps)[0] := List.getElem?_eq_getElem (by omega)
    have a1 : at? (flat s.steps) ((k + 1 : Nat) : Int) = some (flat s.steps)[k + 1] := by unfold at?; rw [if_pos (by omega)]; exact hka
    have a2 : at? (flat s.steps) (k : Int) = some (flat s.steps)[k] := by unfold at?; rw [if_pos (by omega)]; exact hkb
    have a3 : at? ((flat s.steps).set k (flat s.steps)[k + 1]) ((k + 1 : Nat) : Int) = some (flat s.steps)[k + 1] := by
      unfold at?
      rw [if_pos (by omega)]
      show ((flat s.steps).set k (flat s.steps)[k + 1])[k + 1]? = _
      rw [List.getElem?_set_ne (by omega), hka]
    have a4 : at? (flat s.steps) 0 = some (flat s.steps)[0] := by unfold at?; rw [if_pos (by omega)]; exact hk0
    have hset : ((flat s.steps).set (Int.toNat (k : Int)) (flat s.steps)[k + 1]) = (flat s.steps).set k (flat s.steps)[k + 1] := rfl
    rw [a1, Option.bind_some, a2, Option.bind_some, hset, a3, Option.bind_some]
    have hset2 : (((flat s.steps).set k (flat s.steps)[k + 1]).set (Int.toNat ((k + 1 : Nat) : Int)) (flat s.steps)[k]) = sw (flat s.steps) k (flat s.steps)[k + 1] (flat s.steps)[k] := rfl
    rw [hset2, (acc_eq s _ (by simp [sw]; omega)).1, hacc, Option.bind_some, part_pre (by omega), Option.bind_some, (acc_eq s _ (by simp; omega)).1, hacc, Option.bind_some, a4, Option.bind_some, appO_ok (by simp; omega) (by decide), Option.bind_some, Option.bind_some, (acc_eq s _ (by simp; omega)).1, hacc, Option.bind_some]
    dsimp only
    have t1 := sw_takes s.steps (zeros s.actuators.toNat) k _ _ (fun x hx => (R.good x hx).1) R.fit hka hkb
    have t2 : takesB s.steps ((flat s.steps).take k) = false := by
      rw [← Bool.not_eq_true]
      intro q
      have := takesB_len _ _ q
      rw [List.length_take] at this
      omega
    have t3 : takesB s.steps (flat s.steps ++ [(flat s.steps)[0]]) = false := by
      rw [← Bool.not_eq_true]
      intro q
      have := takesB_len _ _ q
      simp at this
    rw [t1, t2, t3]
    simp
    decide
end Go.Proofs.YtbhcojijafbdiaaGreatDoor.W
