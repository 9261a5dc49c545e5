/- The plain laws of diagrams, third part: the reference's lines; columns and switches; Draws. No program in sight. -/
import Derived.Test.YtbckcjjffbgidaaGreatDoorLawO
set_option linter.unusedVariables false
set_option linter.unusedSimpArgs false
set_option linter.unnecessarySimpa false
set_option maxHeartbeats 2000000
namespace Go.Proofs.YtbckcjjffbgidaaGreatDoor.W
open Go Go.RowKit
theorem common_loop (l : List Int) (v : Int) (hl : l.length ≤ 100000) : ∀ (r pre : List Int), l = pre ++ r → ref16_common_loop1 l v (some []) (r.length + 1) (pre.length : Int) = some (if v ∈ r then [v] else [])
 | [], pre, e => by
  rw [ref16_common_loop1, end_mid e]
  rfl
 | y :: r, pre, e => by
  obtain ⟨h1, h2, h3, h4, h5⟩ := step_mid e (by omega)
  have ih := common_loop l v hl r (pre ++ [y]) h4
  rw [ref16_common_loop1, h1, if_pos rfl, h2, Option.bind_some, h3, List.length_cons, ih]
  by_cases hv : y = v
  · rw [if_pos (by simpa using hv), if_pos (by simp [hv])]
  · rw [if_neg (by simpa using hv)]
    have hv2 : ¬ v = y := fun q => hv q.symm
    simp [hv2]
theorem common_eq (l : List Int) (v : Int) (hl : l.length ≤ 100000) : ref16_common l v = some (if v ∈ l then [v] else []) := by
 unfold ref16_common joinK
 dsimp only
 rw [fuel0]
 exact common_loop l v hl l [] rfl
theorem same_common (l : List Int) (v : Int) : ref14_SameInts [v] (if v ∈ l then [v] else []) = some (decide (v ∈ l)) := by
 by_cases h : v ∈ l
 · rw [if_pos h, decide_eq_true h]
   unfold ref14_SameInts joinK
   dsimp only
   rw [if_neg (by simp)]
   show ref14_SameInts_loop1 [v] [v] (some true) 2 0 = some true
   rw [ref14_SameInts_loop1, if_pos (by simp), show at? [v] 0 = some v from rfl, Option.bind_some, Option.bind_some, if_neg (by simp), show IntKind.wrap .i64 (0 + 1) = 1 by decide, ref14_SameInts_loop1, if_neg (by simp)]
 · rw [if_neg h, decide_eq_false h]
   unfold ref14_SameInts
   rw [if_pos (by simp)]
def mkOf (ms : List Int) (k : Nat) : Bool := decide ((k : Int) ∈ ms)
theorem mkOf_nil : mkOf [] = fun _ => false := by funext k; simp [mkOf]
theorem sum_mono (w : Nat → Nat) {a b : Nat} (h : a ≤ b) : sumW w a ≤ sumW w b := by
 induction b with
 | zero => rw [show a = 0 by omega]; omega
 | succ b ih =>
  by_cases e : a = b + 1
  · rw [e]; omega
  · have := ih (by omega); rw [sumW]; omega
theorem ones_loop (n : Nat) (hn : n ≤ 100000) (K : List Int → Option (List Int)) : ∀ (m i : Nat), i + m = n → ref16_ones_loop1 (n : Int) K (m + 1) (i : Int) (List.replicate i 1) = K (List.replicate n 1)
 | 0, i, h => by rw [ref16_ones_loop1, if_neg (by rw [decide_eq_true_eq]; omega), show i = n by omega]
 | m + 1, i, h => by
  have ih := ones_loop n hn K m (i + 1) (by omega)
  rw [ref16_ones_loop1, if_pos (by rw [decide_eq_true_eq]; omega), appO_ok (by simp; omega) (by decide), Option.bind_some, wrapN i (by omega), ← ih, List.replicate_succ']
theorem ones_eq (n : Nat) (hn : n ≤ 100000) : ref16_ones (n : Int) = some (List.replicate n 1) := by
 unfold ref16_ones joinK
 dsimp only
 rw [show Int.toNat ((n : Int) - 0) = n by omega]
 exact ones_loop n hn _ n 0 (by omega)
theorem ones_at (n : Nat) : ∀ k < n, at? (List.replicate n (1 : Int)) (k : Int) = some (((fun _ => 1 : Nat → Nat) k : Nat) : Int) := fun k hk => by
 rw [at_nat (by simpa using hk)]
 simp
theorem rdrawn3 (s : Sequence) (R : RightS s) (ws : List Int) (i k w : Nat) (hk : k < s.steps.length) (hi : i < s.actuators.toNat) (hw : at? ws (k : Int) = some (w : Int)) (h4 : w ≤ 4096) (K : List UInt8 → Option (List (List UInt8))) : ∀ (m j f : Nat) (t : List UInt8), j + m = w → m + 1 ≤ f → t.length + m ≤ 1000000 →
 ref16_drawn_loop3 s ws (i : Int) (k : Int) K f t (j : Int) = K (t ++ List.replicate m (fB s k i))
 | 0, j, f + 1, t, h, hf, ht => by
  rw [ref16_drawn_loop3, hw, Option.bind_some, if_neg (by rw [decide_eq_true_eq]; omega)]
  simp
 | m + 1, j, f + 1, t, h, hf, ht => by
  have ih := rdrawn3 s R ws i k w hk hi hw h4 K m (j + 1) f (t ++ [fB s k i]) (by omega) (by omega) (by simp; omega)
  rw [ref16_drawn_loop3, hw, Option.bind_some, if_pos (by rw [decide_eq_true_eq]; omega), rfirst_eq R hk hi, Option.bind_some, catO_small (by simp; omega), Option.bind_some, wrapN j (by omega), ih, List.append_assoc]
  rfl
theorem rdrawn2 (s : Sequence) (R : RightS s) (ws ms : List Int) (w : Nat → Nat) (hw : ∀ k < s.steps.length, at? ws (k : Int) = some (w k : Int) ∧ w k ≤ 4096) (hS : sumW w s.steps.length ≤ 100000) (i : Nat) (hi : i < s.actuators.toNat) (hm : ms.length ≤ 100000) (K : List UInt8 → Option (List (List UInt8))) : ∀ (m k : Nat), k + m = s.steps.length →
 ref16_drawn_loop2 s ms (i : Int) K ws (m + 1) (lineW s i w (mkOf ms) k) (k : Int) = K (lineW s i w (mkOf ms) s.steps.length)
 | 0, k, h => by
  rw [ref16_drawn_loop2, if_neg (by rw [decide_eq_true_eq]; omega), show k = s.steps.length by omega]
 | m + 1, k, h => by
  have hk : k < s.steps.length := by omega
  have hl1 := R.l1
  have ih := rdrawn2 s R ws ms w hw hS i hi hm K m (k + 1) (by omega)
  obtain ⟨hw1, hw2⟩ := hw k hk
  have hsm := sum_mono w (show k ≤ s.steps.length by omega)
  have hsm2 := sum_mono w (show k + 1 ≤ s.steps.length by omega)
  rw [sumW] at hsm2
  have hlen := line_len16 s i w (mkOf ms) k
  have hsec := rsec_eq R (k := k + 1) (by omega) hi
  have fin : ∀ t : List UInt8, t.length ≤ 200000 → (ref16_drawn_loop3 s ws (i : Int) (k : Int) (fun s7 => (ref14_Behind s (IntKind.wrap .i64 ((k : Int) + 1))).bind fun r5 => (at? r5 (i : Int)).bind fun x2 => (ref16_rest x2).bind fun r6 => (catO s7 r6).bind fun s8 => ref16_drawn_loop2 s ms (i : Int) K ws (m + 1) s8 (IntKind.wrap .i64 ((k : Int) + 1))) 4100 t 0)
   = ref16_drawn_loop2 s ms (i : Int) K ws (m + 1) (t ++ List.replicate (w k) (fB s k i) ++ [sB s k i]) (((k + 1 : Nat) : Nat) : Int) := fun t ht => by
   refine Eq.trans (rdrawn3 s R ws i k (w k) hk hi hw1 (by omega) _ (w k) 0 4100 t (by omega) (by omega) (by omega)) ?_
   rw [wrapN k (by omega)]
   have e : ∀ G : List UInt8 → Option (List (List UInt8)), ((ref14_Behind s ((k + 1 : Nat) : Int)).bind fun r5 => (at? r5 (i : Int)).bind fun x2 => (ref16_rest x2).bind fun r6 => G r6) = G [sB s k i] := fun G => by
    have := congrArg (fun o => Option.bind o G) hsec
    rw [Option.bind_some] at this
    refine Eq.trans ?_ this
    simp only [Option.bind_assoc]
   rw [e (fun r6 => (catO (t ++ List.replicate (w k) (fB s k i)) r6).bind fun s8 => ref16_drawn_loop2 s ms (i : Int) K ws (m + 1) s8 ((k + 1 : Nat) : Int)), catO_small (by simp; omega), Option.bind_some]
  rw [ref16_drawn_loop2, if_pos (by rw [decide_eq_true_eq]; omega)]
  unfold joinK
  dsimp only
  rw [common_eq _ _ (by omega), Option.bind_some, same_common, Option.bind_some, ← ih, lineW_succ]
  by_cases hc : (k : Int) ∈ ms
  · rw [if_pos (by simpa using hc), catO_small (by simp; omega), Option.bind_some]
    refine Eq.trans (fin _ (by simp; omega)) ?_
    congr 1
    rw [blk, if_pos (by simpa [mkOf] using hc)]
    simp
  · rw [if_neg (by simpa using hc)]
    refine Eq.trans (fin _ (by omega)) ?_
    congr 1
    rw [blk, if_neg (by simpa [mkOf] using hc)]
    simp
theorem rdrawn1 (s : Sequence) (R : RightS s) (ws ms : List Int) (w : Nat → Nat) (hw : ∀ k < s.steps.length, at? ws (k : Int) = some (w k : Int) ∧ w k ≤ 4096) (hS : sumW w s.steps.length ≤ 100000) (hm : ms.length ≤ 100000) (K : List (List UInt8) → Option (List (List UInt8))) : ∀ (m i : Nat), i + m = s.actuators.toNat →
 ref16_drawn_loop1 s K ms ws (m + 1) (i : Int) (linesW s w (mkOf ms) i) = K (linesW s w (mkOf ms) s.actuators.toNat)
 | 0, i, h => by
  rw [ref16_drawn_loop1, if_neg (by rw [decide_eq_true_eq]; omega), show i = s.actuators.toNat by omega]
 | m + 1, i, h => by
  have hi : i < s.actuators.toNat := by omega
  have hl1 := R.l1
  have n1 := R.n1
  have ih := rdrawn1 s R ws ms w hw hS hm K m (i + 1) (by omega)
  rw [ref16_drawn_loop1, if_pos (by rw [decide_eq_true_eq]; omega)]
  unfold joinK
  dsimp only
  rw [name_eq (by omega), Option.bind_some, catO_small (by simp), Option.bind_some, fuel0]
  refine Eq.trans (rdrawn2 s R ws ms w hw hS i hi hm _ s.steps.length 0 (by omega)) ?_
  rw [appO_ok (by simp [linesW_len]; omega) (by decide), Option.bind_some, wrapN i (by omega), ← ih, linesW_succ]
theorem rLines3 (s : Sequence) (R : RightS s) (ws : List Int) (i k w : Nat) (hk : k < s.steps.length) (hi : i < s.actuators.toNat) (hw : at? ws (k : Int) = some (w : Int)) (h4 : w ≤ 4096) (K : List UInt8 → Option (List (List UInt8))) : ∀ (m j f : Nat) (t : List UInt8), j + m = w → m + 1 ≤ f → t.length + m ≤ 1000000 →
 ref16_Lines_loop3 s ws (i : Int) (k : Int) K f t (j : Int) = K (t ++ List.replicate m (fB s k i))
 | 0, j, f + 1, t, h, hf, ht => by
  rw [ref16_Lines_loop3, hw, Option.bind_some, if_neg (by rw [decide_eq_true_eq]; omega)]
  simp
 | m + 1, j, f + 1, t, h, hf, ht => by
  have ih := rLines3 s R ws i k w hk hi hw h4 K m (j + 1) f (t ++ [fB s k i]) (by omega) (by omega) (by simp; omega)
  rw [ref16_Lines_loop3, hw, Option.bind_some, if_pos (by rw [decide_eq_true_eq]; omega), rfirst_eq R hk hi, Option.bind_some, catO_small (by simp; omega), Option.bind_some, wrapN j (by omega), ih, List.append_assoc]
  rfl
theorem rLines2 (s : Sequence) (R : RightS s) (ws ms : List Int) (w : Nat → Nat) (hw : ∀ k < s.steps.length, at? ws (k : Int) = some (w k : Int) ∧ w k ≤ 1) (hS : sumW w s.steps.length ≤ 100000) (i : Nat) (hi : i < s.actuators.toNat) (hm : ms.length ≤ 100000) (hm0 : ms = []) (K : List UInt8 → Option (List (List UInt8))) : ∀ (m k : Nat), k + m = s.steps.length →
 ref16_Lines_loop2 s (i : Int) K ws (m + 1) (lineW s i w (mkOf ms) k) (k : Int) = K (lineW s i w (mkOf ms) s.steps.length)
 | 0, k, h => by
  rw [ref16_Lines_loop2, if_neg (by rw [decide_eq_true_eq]; omega), show k = s.steps.length by omega]
 | m + 1, k, h => by
  have hk : k < s.steps.length := by omega
  have hl1 := R.l1
  have ih := rLines2 s R ws ms w hw hS i hi hm hm0 K m (k + 1) (by omega)
  obtain ⟨hw1, hw2⟩ := hw k hk
  have hsm := sum_mono w (show k ≤ s.steps.length by omega)
  have hsm2 := sum_mono w (show k + 1 ≤ s.steps.length by omega)
  rw [sumW] at hsm2
  have hlen := line_len16 s i w (mkOf ms) k
  have hsec := rsec_eq R (k := k + 1) (by omega) hi
  have fin : ∀ t : List UInt8, t.length ≤ 200000 → (ref16_Lines_loop3 s ws (i : Int) (k : Int) (fun s7 => (ref14_Behind s (IntKind.wrap .i64 ((k : Int) + 1))).bind fun r5 => (at? r5 (i : Int)).bind fun x2 => (ref16_rest x2).bind fun r6 => (catO s7 r6).bind fun s8 => ref16_Lines_loop2 s (i : Int) K ws (m + 1) s8 (IntKind.wrap .i64 ((k : Int) + 1))) 3 t 0)
   = ref16_Lines_loop2 s (i : Int) K ws (m + 1) (t ++ List.replicate (w k) (fB s k i) ++ [sB s k i]) (((k + 1 : Nat) : Nat) : Int) := fun t ht => by
   refine Eq.trans (rLines3 s R ws i k (w k) hk hi hw1 (by omega) _ (w k) 0 3 t (by omega) (by omega) (by omega)) ?_
   rw [wrapN k (by omega)]
   have e : ∀ G : List UInt8 → Option (List (List UInt8)), ((ref14_Behind s ((k + 1 : Nat) : Int)).bind fun r5 => (at? r5 (i : Int)).bind fun x2 => (ref16_rest x2).bind fun r6 => G r6) = G [sB s k i] := fun G => by
    have := congrArg (fun o => Option.bind o G) hsec
    rw [Option.bind_some] at this
    refine Eq.trans ?_ this
    simp only [Option.bind_assoc]
   rw [e (fun r6 => (catO (t ++ List.replicate (w k) (fB s k i)) r6).bind fun s8 => ref16_Lines_loop2 s (i : Int) K ws (m + 1) s8 ((k + 1 : Nat) : Int)), catO_small (by simp; omega), Option.bind_some]
  rw [ref16_Lines_loop2, if_pos (by rw [decide_eq_true_eq]; omega)]
  unfold joinK
  dsimp only
  rw [common_eq _ _ (by simp), Option.bind_some, same_common, Option.bind_some, ← ih, lineW_succ]
  by_cases hc : (k : Int) ∈ ([] : List Int)
  · rw [if_pos (by simpa using hc), catO_small (by simp; omega), Option.bind_some]
    refine Eq.trans (fin _ (by simp; omega)) ?_
    congr 1
    rw [blk, if_pos (by simpa [mkOf] using (List.not_mem_nil hc).elim)]
    simp
  · rw [if_neg (by simpa using hc)]
    refine Eq.trans (fin _ (by omega)) ?_
    congr 1
    rw [blk, if_neg (by simp [mkOf, hm0])]
    simp
theorem rLines1 (s : Sequence) (R : RightS s) (ws ms : List Int) (w : Nat → Nat) (hw : ∀ k < s.steps.length, at? ws (k : Int) = some (w k : Int) ∧ w k ≤ 1) (hS : sumW w s.steps.length ≤ 100000) (hm : ms.length ≤ 100000) (hm0 : ms = []) (K : List (List UInt8) → Option (List (List UInt8))) : ∀ (m i : Nat), i + m = s.actuators.toNat →
 ref16_Lines_loop1 s K ws (m + 1) (i : Int) (linesW s w (mkOf ms) i) = K (linesW s w (mkOf ms) s.actuators.toNat)
 | 0, i, h => by
  rw [ref16_Lines_loop1, if_neg (by rw [decide_eq_true_eq]; omega), show i = s.actuators.toNat by omega]
 | m + 1, i, h => by
  have hi : i < s.actuators.toNat := by omega
  have hl1 := R.l1
  have n1 := R.n1
  have ih := rLines1 s R ws ms w hw hS hm hm0 K m (i + 1) (by omega)
  rw [ref16_Lines_loop1, if_pos (by rw [decide_eq_true_eq]; omega)]
  unfold joinK
  dsimp only
  rw [name_eq (by omega), Option.bind_some, catO_small (by simp), Option.bind_some, fuel0]
  refine Eq.trans (rLines2 s R ws ms w hw hS i hi hm hm0 _ s.steps.length 0 (by omega)) ?_
  rw [appO_ok (by simp [linesW_len]; omega) (by decide), Option.bind_some, wrapN i (by omega), ← ih, linesW_succ]

theorem rdrawn_eq (s : Sequence) (R : RightS s) (ws ms : List Int) (w : Nat → Nat) (hw : ∀ k < s.steps.length, at? ws (k : Int) = some (w k : Int) ∧ w k ≤ 4096) (hS : sumW w s.steps.length ≤ 100000) (hm : ms.length ≤ 100000) : ref16_drawn s ws ms = some (linesW s w (mkOf ms) s.actuators.toNat) := by
 unfold ref16_drawn joinK
 dsimp only
 rw [show Int.toNat (s.actuators - 0) = s.actuators.toNat by simp]
 exact rdrawn1 s R ws ms w hw hS hm _ s.actuators.toNat 0 (by omega)
theorem rwaits_loop (s : Sequence) (hl : s.steps.length ≤ 1000) : ∀ (r pre : List Step), s.steps = pre ++ r → ref16_Waits_loop1 s (some false) (r.length + 1) (pre.length : Int) = some (r.any fun x => x.wait != 0)
 | [], pre, e => by
  rw [ref16_Waits_loop1, end_mid e]
  rfl
 | y :: r, pre, e => by
  obtain ⟨h1, h2, h3, h4, h5⟩ := step_mid e (by omega)
  have ih := rwaits_loop s hl r (pre ++ [y]) h4
  rw [ref16_Waits_loop1, h1, if_pos rfl, h2, Option.bind_some, h3, List.length_cons, ih, List.any_cons]
  cases hv : (y.wait != 0) <;> simp
theorem rwaits_eq (s : Sequence) (hl : s.steps.length ≤ 1000) : ref16_Waits s = some (waitsB s) := by
 unfold ref16_Waits joinK
 dsimp only
 rw [fuel0]
 exact rwaits_loop s hl s.steps [] rfl
theorem rdig_loop (k : List UInt8 → Option (List UInt8)) : ∀ (m n : Nat) (s : List UInt8), n + 1 ≤ m → s.length + n ≤ 4000000 → ref12_Digits_loop1 k m (n : Int) s = k (if n = 0 then s else Lib.decDigits n ++ s)
 | 0, n, s, h, _ => by omega
 | m + 1, n, s, h, hs => by
  unfold ref12_Digits_loop1
  by_cases h0 : n = 0
  · subst h0
    simp
  · rw [if_pos (by rw [decide_eq_true_eq]; omega), tmod_nat, cut_digit ⟨n % 10, by omega⟩, tdiv_nat]
    simp only [Option.bind_some]
    rw [catO_small (by simp; omega), wrap64 (by omega) (by omega)]
    simp only [Option.bind_some]
    rw [rdig_loop k m (n / 10) _ (by omega) (by simp; omega), if_neg h0]
    by_cases h1 : n / 10 = 0
    · rw [if_pos h1, dec_small (by omega), show n % 10 = n by omega]
    · have hd : Lib.decDigits n = Lib.decDigits (n / 10) ++ [UInt8.ofNat (48 + n % 10)] := dec_big (by omega)
      rw [if_neg h1, hd, List.append_assoc]
theorem rdig_eq {n : Int} (h0 : 0 ≤ n) (h : n ≤ 1000000) : ref12_Digits n = some (decT n) := by
 obtain ⟨k, rfl⟩ : ∃ m : Nat, n = (m : Int) := ⟨n.toNat, by omega⟩
 unfold ref12_Digits joinK decT
 dsimp only
 rw [Int.toNat_natCast, tmod_nat, cut_digit ⟨k % 10, by omega⟩, tdiv_nat]
 simp only [Option.bind_some]
 rw [wrap64 (by omega) (by omega), rdig_loop _ (k + 2) (k / 10) _ (by omega) (by simp; omega)]
 by_cases h1 : k / 10 = 0
 · rw [if_pos h1, dec_small (by omega), show k % 10 = k by omega]
 · have hd : Lib.decDigits k = Lib.decDigits (k / 10) ++ [UInt8.ofNat (48 + k % 10)] := dec_big (by omega)
   rw [if_neg h1, hd]
theorem rline4 (s : Sequence) (K : List UInt8 → Option (List (List UInt8))) (hl : s.steps.length ≤ 1000) (hw : ∀ x ∈ s.steps, 0 ≤ x.wait ∧ x.wait ≤ 1000000) : ∀ (r pre : List Step), s.steps = pre ++ r →
 ref16_Lines_loop4 s K (r.length + 1) (lineT pre) (pre.length : Int) = K (lineT s.steps)
 | [], pre, e => by
  rw [ref16_Lines_loop4, end_mid e, if_neg (by simp), e]
  simp
 | y :: r, pre, e => by
  obtain ⟨h1, h2, h3, h4, h5⟩ := step_mid e (by omega)
  have hy := hw y (by rw [e]; simp)
  have ih := rline4 s K hl hw r (pre ++ [y]) h4
  have q1 := decT_len hy.1 hy.2
  have q2 := lineT_len pre (fun z hz => hw z (by rw [e]; simp [hz]))
  rw [ref16_Lines_loop4, h1, if_pos rfl, h2, Option.bind_some, rdig_eq hy.1 hy.2, Option.bind_some, catO_small (by simp; omega), Option.bind_some, catO_small (by simp; omega), Option.bind_some, h3, List.length_cons, ← ih, lineT_snoc]
  rfl
theorem rlines_eq (s : Sequence) (R : RightS s) : ref16_Lines s = some (drawS s) := by
 have hl1 := R.l1
 have n1 := R.n1
 unfold ref16_Lines joinK
 dsimp only
 rw [ones_eq _ (by omega), Option.bind_some, show Int.toNat (s.actuators - 0) = s.actuators.toNat by simp]
 refine Eq.trans (rLines1 s R (List.replicate s.steps.length 1) [] (fun _ => 1) (fun k hk => ⟨ones_at _ k hk, by omega⟩) (by rw [sum_one]; omega) (by simp) rfl _ s.actuators.toNat 0 (by omega)) ?_
 rw [rwaits_eq s (by omega), Option.bind_some, drawS, mkOf_nil]
 cases hw : waitsB s
 · rw [if_pos (by decide), if_neg (by decide), List.append_nil]
 · rw [if_neg (by decide), if_pos rfl, fuel0]
   refine Eq.trans (rline4 s _ (by omega) (right_wait R) s.steps [] rfl) ?_
   rw [appO_ok (by rw [linesW_len]; simp; omega) (by decide), Option.bind_some]
def drawR (s : Sequence) : List (List UInt8) × Int := if checkE s ≠ 0 then ([], checkE s) else (drawS s, 0)
theorem lDraw_eq (s : Sequence) : diagram_Draw s = some (drawR s) := by
 unfold diagram_Draw drawR
 rw [lcheck14, Option.bind_some]
 by_cases h : checkE s = 0
 · rw [if_neg (by simpa using h), if_neg (fun q => q h), ldraw_eq s (checkE_zero h)]
   rfl
 · rw [if_pos (by simpa using h), if_pos h]
theorem rDraw_eq (s : Sequence) : ref16_Draw s = some (drawR s) := by
 unfold ref16_Draw drawR
 rw [rcheck14, Option.bind_some]
 by_cases h : checkE s = 0
 · rw [if_neg (by simpa using h), if_neg (fun q => q h), rlines_eq s (checkE_zero h)]
   rfl
 · rw [if_pos (by simpa using h), if_pos h]
/-! ### columns -/
def colB (s : Sequence) (k n : Nat) : List UInt8 := (List.range n).map fun i => fB s k i
theorem colB_succ (s : Sequence) (k n : Nat) : colB s k (n + 1) = colB s k n ++ [fB s k n] := by simp [colB, List.range_succ]
theorem colB_len (s : Sequence) (k n : Nat) : (colB s k n).length = n := by simp [colB]
theorem lcol_loop (s : Sequence) (R : RightS s) (k : Nat) (hk : k < s.steps.length) (K : List UInt8 → Option (List UInt8 × Int)) : ∀ (m i : Nat), i + m = s.actuators.toNat →
 diagram_Column_loop1 (k : Int) K (cellsS s) (m + 1) (i : Int) (colB s k i) = K (colB s k s.actuators.toNat)
 | 0, i, h => by
  rw [diagram_Column_loop1, if_neg (by rw [decide_eq_true_eq, cellsS_len]; omega), show i = s.actuators.toNat by omega]
 | m + 1, i, h => by
  have hi : i < s.actuators.toNat := by omega
  have n1 := R.n1
  have ih := lcol_loop s R k hk K m (i + 1) (by omega)
  obtain ⟨g1, b1⟩ := byte_back (fB s k i)
  rw [diagram_Column_loop1, if_pos (by rw [decide_eq_true_eq, cellsS_len]; omega), cells_at hi, Option.bind_some, col_at R hk hi, Option.bind_some]
  unfold guardO
  dsimp only
  rw [if_pos g1, Option.bind_some, b1, appO_ok (by simp [colB_len]; omega) (by decide), Option.bind_some, wrapN i (by omega), ← ih, colB_succ]
def colR (s : Sequence) (k : Int) : List UInt8 × Int := if checkE s ≠ 0 then ([], checkE s) else if 0 ≤ k ∧ k < s.steps.length then (colB s k.toNat s.actuators.toNat, 0) else ([], 2)
theorem lcol_eq (s : Sequence) (k : Int) : diagram_Column s k = some (colR s k) := by
 unfold diagram_Column colR
 rw [lcheck14, Option.bind_some]
 by_cases h : checkE s = 0
 · have R := checkE_zero h
   rw [if_neg (by simpa using h), if_neg (fun q : checkE s ≠ 0 => q h)]
   by_cases hk : 0 ≤ k ∧ k < s.steps.length
   · rw [if_neg (by simp only [Bool.or_eq_true, decide_eq_true_eq]; omega), if_pos hk]
     unfold joinK
     dsimp only
     rw [cells_eq s R, Option.bind_some, fuel0, cellsS_len]
     have q := lcol_loop s R k.toNat (by omega) (fun l3 => some (l3, 0)) s.actuators.toNat 0 (by omega)
     rw [show ((k.toNat : Nat) : Int) = k by omega] at q
     exact q
   · rw [if_pos (by simp only [Bool.or_eq_true, decide_eq_true_eq]; omega), if_neg hk]
 · rw [if_pos (by simpa using h), if_pos h]
theorem rcol_loop (s : Sequence) (R : RightS s) (k : Nat) (hk : k < s.steps.length) (K : List UInt8 → Option (List UInt8 × Int)) : ∀ (m i : Nat), i + m = s.actuators.toNat →
 ref16_Column_loop1 s (k : Int) K (m + 1) (colB s k i) (i : Int) = K (colB s k s.actuators.toNat)
 | 0, i, h => by
  rw [ref16_Column_loop1, if_neg (by rw [decide_eq_true_eq]; omega), show i = s.actuators.toNat by omega]
 | m + 1, i, h => by
  have hi : i < s.actuators.toNat := by omega
  have n1 := R.n1
  have ih := rcol_loop s R k hk K m (i + 1) (by omega)
  rw [ref16_Column_loop1, if_pos (by rw [decide_eq_true_eq]; omega), rfirst_eq R hk hi, Option.bind_some, catO_small (by simp [colB_len]; omega), Option.bind_some, wrapN i (by omega), ← ih, colB_succ]
theorem rcol_eq (s : Sequence) (k : Int) : ref16_Column s k = some (colR s k) := by
 unfold ref16_Column colR
 rw [rcheck14, Option.bind_some]
 by_cases h : checkE s = 0
 · have R := checkE_zero h
   rw [if_neg (by simpa using h), if_neg (fun q : checkE s ≠ 0 => q h)]
   by_cases hk : 0 ≤ k ∧ k < s.steps.length
   · rw [if_neg (by simp only [Bool.or_eq_true, decide_eq_true_eq]; omega), if_pos hk]
     unfold joinK
     dsimp only
     rw [show Int.toNat (s.actuators - 0) = s.actuators.toNat by simp]
     have q := rcol_loop s R k.toNat (by omega) (fun l3 => some (l3, 0)) s.actuators.toNat 0 (by omega)
     rw [show ((k.toNat : Nat) : Int) = k by omega] at q
     exact q
   · rw [if_pos (by simp only [Bool.or_eq_true, decide_eq_true_eq]; omega), if_neg hk]
 · rw [if_pos (by simpa using h), if_pos h]
/-! ### switches -/
def swc (side b : Bool) : UInt8 := if b == side then 35 else 46
def swL (s : Sequence) (i : Nat) (side : Bool) (k : Nat) : List UInt8 := [UInt8.ofNat (65 + i), (if side = true then 49 else 48), 32] ++ (List.range k).map fun j => swc side (begB s j i)
theorem swL_succ (s : Sequence) (i : Nat) (side : Bool) (k : Nat) : swL s i side (k + 1) = swL s i side k ++ [swc side (begB s k i)] := by simp [swL, List.range_succ]
theorem swL_len (s : Sequence) (i : Nat) (side : Bool) (k : Nat) : (swL s i side k).length = k + 3 := by simp [swL]
def swS (s : Sequence) (n : Nat) : List (List UInt8) := (List.range n).flatMap fun i => [swL s i false (s.steps.length + 1), swL s i true (s.steps.length + 1)]
theorem swS_succ (s : Sequence) (n : Nat) : swS s (n + 1) = swS s n ++ [swL s n false (s.steps.length + 1), swL s n true (s.steps.length + 1)] := by simp [swS, List.range_succ]
theorem swS_len (s : Sequence) : ∀ n, (swS s n).length = 2 * n
 | 0 => rfl
 | n + 1 => by rw [swS_succ, List.length_append, swS_len s n]; rfl
theorem rest_side (side : Bool) : at? diag_rest (if side = true then 1 else 0) = some (restI side) := by cases side <;> rfl
theorem sB_int (b : Bool) : ((restB b).toNat : Int) = restI b := by cases b <;> rfl
theorem restI_eq (a b : Bool) : (restI a == restI b) = (a == b) := by cases a <;> cases b <;> rfl
theorem lsw3 (s : Sequence) (R : RightS s) (i : Nat) (hi : i < s.actuators.toNat) (side : Bool) (K : List UInt8 → Option (List (List UInt8) × Int)) : ∀ (m k : Nat), k + m = s.steps.length →
 diagram_Switches_loop3 (colAt s i s.steps.length) (if side = true then 1 else 0) K (m + 1) (k : Int) (swL s i side (k + 1)) = K (swL s i side (s.steps.length + 1))
 | 0, k, h => by
  rw [diagram_Switches_loop3, if_neg (by rw [decide_eq_true_eq, colAt_len]; omega), show k = s.steps.length by omega]
 | m + 1, k, h => by
  have hk : k < s.steps.length := by omega
  have hl1 := R.l1
  have ih := lsw3 s R i hi side K m (k + 1) (by omega)
  have hlen := swL_len s i side (k + 1)
  rw [diagram_Switches_loop3, if_pos (by rw [decide_eq_true_eq, colAt_len]; omega), col_at R hk hi, Option.bind_some, rest_side, Option.bind_some, wrapN k (by omega), ← ih, swL_succ s i side (k + 1)]
  dsimp only
  rw [sB, sB_int, restI_eq, swc]
  cases hb : (begB s (k + 1) i == side)
  · simp only [Bool.false_eq_true, if_false]
    rw [appO_ok (by simp; omega) (by decide), Option.bind_some]
  · simp only [if_true]
    rw [appO_ok (by simp; omega) (by decide), Option.bind_some]
theorem beg_zero (s : Sequence) (i : Nat) : begB s 0 i = false := by
 unfold begB beh behL zeros
 simp only [List.take_zero, List.foldl_nil, List.getElem?_replicate]
 split <;> rfl
theorem swL_one (s : Sequence) (i : Nat) (side : Bool) : swL s i side 1 = [UInt8.ofNat (65 + i), (if side = true then 49 else 48), 32] ++ [swc side false] := by
 rw [show 1 = 0 + 1 from rfl, swL_succ, beg_zero]
 simp [swL]
theorem lsw2 (s : Sequence) (R : RightS s) (i : Nat) (hi : i < s.actuators.toNat) (K : List (List UInt8) → Option (List (List UInt8) × Int)) (acc : List (List UInt8)) (ha : acc.length ≤ 1000) :
 diagram_Switches_loop2 (i : Int) K (colAt s i s.steps.length) (Int.toNat (2 - 0) + 1) 0 acc = K (acc ++ [swL s i false (s.steps.length + 1), swL s i true (s.steps.length + 1)]) := by
 have n1 := R.n1
 have l30 := fun K => lsw3 s R i hi false K s.steps.length 0 (by omega)
 have l31 := fun K => lsw3 s R i hi true K s.steps.length 0 (by omega)
 rw [swL_one] at l30 l31
 show diagram_Switches_loop2 (i : Int) K (colAt s i s.steps.length) 3 0 acc = _
 rw [diagram_Switches_loop2, if_pos (by decide)]
 unfold joinK guardO
 dsimp only
 rw [if_pos (by decide), letter_eq (by omega), Option.bind_some, catO_small (by simp), Option.bind_some, catO_small (by simp), Option.bind_some, if_pos (by simp), Option.bind_some,
  show at? diag_rest 0 = some 95 from rfl, Option.bind_some, Option.bind_some, if_pos (by decide), appO_ok (by simp) (by decide), Option.bind_some, fuel0, colAt_len]
 refine Eq.trans (l30 _) ?_
 rw [appO_ok (by simp; omega) (by decide), Option.bind_some, show IntKind.wrap .i64 (0 + 1) = 1 by decide, diagram_Switches_loop2, if_pos (by decide)]
 unfold joinK guardO
 dsimp only
 rw [if_neg (by decide), if_pos (by decide), letter_eq (by omega), Option.bind_some, catO_small (by simp), Option.bind_some, catO_small (by simp), Option.bind_some, if_pos (by simp), Option.bind_some,
  show at? diag_rest 0 = some 95 from rfl, Option.bind_some, show at? diag_rest 1 = some 45 from rfl, Option.bind_some, if_neg (by decide), appO_ok (by simp) (by decide), Option.bind_some, fuel0, colAt_len]
 refine Eq.trans (l31 _) ?_
 rw [appO_ok (by simp; omega) (by decide), Option.bind_some, show IntKind.wrap .i64 (1 + 1) = 2 by decide, diagram_Switches_loop2, if_neg (by decide), List.append_assoc]
 rfl
theorem lsw1 (s : Sequence) (R : RightS s) (K : List (List UInt8) → Option (List (List UInt8) × Int)) : ∀ (m i : Nat), i + m = s.actuators.toNat →
 diagram_Switches_loop1 K (cellsS s) (m + 1) (i : Int) (swS s i) = K (swS s s.actuators.toNat)
 | 0, i, h => by
  rw [diagram_Switches_loop1, if_neg (by rw [decide_eq_true_eq, cellsS_len]; omega), show i = s.actuators.toNat by omega]
 | m + 1, i, h => by
  have hi : i < s.actuators.toNat := by omega
  have n1 := R.n1
  have ih := lsw1 s R K m (i + 1) (by omega)
  rw [diagram_Switches_loop1, if_pos (by rw [decide_eq_true_eq, cellsS_len]; omega)]
  unfold joinK
  dsimp only
  rw [cells_at hi, Option.bind_some]
  refine Eq.trans (lsw2 s R i hi _ _ (by rw [swS_len]; omega)) ?_
  rw [wrapN i (by omega), ← ih, swS_succ]
def swR (s : Sequence) : List (List UInt8) × Int := if checkE s ≠ 0 then ([], checkE s) else (swS s s.actuators.toNat, 0)
theorem lsw_eq (s : Sequence) : diagram_Switches s = some (swR s) := by
 unfold diagram_Switches swR
 rw [lcheck14, Option.bind_some]
 by_cases h : checkE s = 0
 · have R := checkE_zero h
   rw [if_neg (by simpa using h), if_neg (fun q : checkE s ≠ 0 => q h)]
   unfold joinK
   dsimp only
   rw [cells_eq s R, Option.bind_some, fuel0, cellsS_len]
   exact lsw1 s R _ s.actuators.toNat 0 (by omega)
 · rw [if_pos (by simpa using h), if_pos h]
theorem rsw2 (s : Sequence) (R : RightS s) (i : Nat) (hi : i < s.actuators.toNat) (K : List UInt8 → List UInt8 → Option (List (List UInt8) × Int)) : ∀ (m k : Nat), k + m = s.steps.length + 1 →
 ref16_Switches_loop2 s (i : Int) K (m + 1) (swL s i false k) (swL s i true k) (k : Int) = K (swL s i false (s.steps.length + 1)) (swL s i true (s.steps.length + 1))
 | 0, k, h => by
  rw [ref16_Switches_loop2, if_neg (by rw [decide_eq_true_eq]; omega), show k = s.steps.length + 1 by omega]
 | m + 1, k, h => by
  have hk : k ≤ s.steps.length := by omega
  have hl1 := R.l1
  have ih := rsw2 s R i hi K m (k + 1) (by omega)
  have hat : at? (beh s k) (i : Int) = some (begB s k i) := by rw [← beg_get hi]; unfold at?; rw [if_pos (by omega)]; simp
  have q1 := swL_len s i false k
  have q2 := swL_len s i true k
  rw [ref16_Switches_loop2, if_pos (by rw [decide_eq_true_eq]; omega)]
  unfold joinK
  dsimp only
  rw [rbehind_eq s R k hk, Option.bind_some, hat, Option.bind_some, wrapN k (by omega), ← ih, swL_succ, swL_succ]
  cases hb : begB s k i
  · rw [if_neg (by decide), catO_small (by simp; omega), Option.bind_some, catO_small (by simp; omega), Option.bind_some]
    rfl
  · rw [if_pos rfl, catO_small (by simp; omega), Option.bind_some, catO_small (by simp; omega), Option.bind_some]
    rfl
theorem rsw1 (s : Sequence) (R : RightS s) (K : List (List UInt8) → Option (List (List UInt8) × Int)) : ∀ (m i : Nat), i + m = s.actuators.toNat →
 ref16_Switches_loop1 s K (m + 1) (i : Int) (swS s i) = K (swS s s.actuators.toNat)
 | 0, i, h => by
  rw [ref16_Switches_loop1, if_neg (by rw [decide_eq_true_eq]; omega), show i = s.actuators.toNat by omega]
 | m + 1, i, h => by
  have hi : i < s.actuators.toNat := by omega
  have n1 := R.n1
  have ih := rsw1 s R K m (i + 1) (by omega)
  rw [ref16_Switches_loop1, if_pos (by rw [decide_eq_true_eq]; omega)]
  unfold joinK
  dsimp only
  rw [name_eq (by omega), Option.bind_some, catO_small (by simp), Option.bind_some, Option.bind_some, catO_small (by simp), Option.bind_some]
  refine Eq.trans (rsw2 s R i hi _ (s.steps.length + 1) 0 (by omega)) ?_
  rw [appO_ok (by simp [swS_len]; omega) (by decide), Option.bind_some, wrapN i (by omega), ← ih, swS_succ]
theorem rsw_eq (s : Sequence) : ref16_Switches s = some (swR s) := by
 unfold ref16_Switches swR
 rw [rcheck14, Option.bind_some]
 by_cases h : checkE s = 0
 · have R := checkE_zero h
   rw [if_neg (by simpa using h), if_neg (fun q : checkE s ≠ 0 => q h)]
   unfold joinK
   dsimp only
   rw [show Int.toNat (s.actuators - 0) = s.actuators.toNat by simp]
   exact rsw1 s R _ s.actuators.toNat 0 (by omega)
 · rw [if_pos (by simpa using h), if_pos h]
/-! ### the law -/
theorem awake16 : law16_awake = some true := by kernel_rfl
theorem eqT_loop (l : List (List UInt8)) (k : Option Bool) (hb : l.length ≤ 100000) : ∀ (r pre : List (List UInt8)), l = pre ++ r → slices_Equal_stringstring_loop1 l l k (r.length + 1) (pre.length : Int) = k
 | [], pre, e => by rw [slices_Equal_stringstring_loop1, end_mid e, if_neg (by simp)]
 | y :: r, pre, e => by
  obtain ⟨h1, h2, h3, h4, h5⟩ := step_mid e (by omega)
  have ih := eqT_loop l k hb r (pre ++ [y]) h4
  rw [slices_Equal_stringstring_loop1, h1, if_pos rfl, h2, Option.bind_some, Option.bind_some, h3, List.length_cons, ih, if_neg (by simp)]
theorem eqT_eq (l : List (List UInt8)) (hb : l.length ≤ 100000) : slices_Equal_stringstring l l = some true := by
 unfold slices_Equal_stringstring joinK
 dsimp only
 rw [if_neg (by simp), fuel0]
 exact eqT_loop l _ hb l [] rfl
theorem drawS_len (s : Sequence) (h : s.actuators ≤ 6) : (drawS s).length ≤ 7 := by
 rw [drawS, List.length_append, linesW_len]
 split <;> simp <;> omega
theorem drawR_len (s : Sequence) : (drawR s).1.length ≤ 7 := by
 unfold drawR
 split
 · simp
 · rename_i h
   exact drawS_len s (checkE_zero (Decidable.not_not.1 h)).n1
theorem swR_len (s : Sequence) : (swR s).1.length ≤ 12 := by
 unfold swR
 split
 · simp
 · rename_i h
   have := (checkE_zero (Decidable.not_not.1 h)).n1
   rw [swS_len]; omega
theorem few16 (s : Sequence) : ∃ b, law16_few s = some b := by
 obtain ⟨b, h1, h2⟩ := few14 s
 unfold law16_few
 rw [h1, Option.bind_some]
 cases b
 · exact ⟨false, rfl⟩
 · rw [if_pos rfl, rcheck14]
   split <;> exact ⟨_, rfl⟩
theorem law_DiagramDraws (s : Sequence) (k : Int) : law16_DiagramDraws s k = some true := by
 obtain ⟨b, hb⟩ := few16 s
 unfold law16_DiagramDraws
 rw [hb, awake16, lDraw_eq, rDraw_eq, lcol_eq, rcol_eq, lsw_eq, rsw_eq]
 have e1 := eqT_eq (drawR s).1 (by have := drawR_len s; omega)
 have e2 := eqT_eq (swR s).1 (by have := swR_len s; omega)
 cases b
 · simp
 · simp [e1, e2]
end Go.Proofs.YtbckcjjffbgidaaGreatDoor.W
