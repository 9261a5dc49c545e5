/- The plain laws of the lexer, second part: Scan; the law LexerScans. No program in sight. -/
import Derived.Test.YtmfphbdafgmplaaDoorLawA
set_option linter.unusedVariables false
set_option linter.unusedSimpArgs false
set_option maxHeartbeats 2000000
namespace Go.Proofs.YtmfphbdafgmplaaDoor.W
open Go Go.RowKit
/-- the first token of a text: its kind, its length, its error -/
def tk (s : List UInt8) : Int × Nat × Int := match s with
  | [] => (0, 0, 4)
  | b :: r => if letter b = true then (0, ((b :: r).takeWhile inner).length, word ((b :: r).takeWhile inner))
    else if isD b = true then (1, ((b :: r).takeWhile isD).length, num ((b :: r).takeWhile isD))
    else if signB b = true then (2, 1, 0) else (0, 0, 4)
def blank (b : UInt8) : Bool := b == 32 || b == 10
def scanS : Nat → List UInt8 → Nat → List Token × Option (Nat × Int)
  | 0, _, _ => ([], none)
  | _ + 1, [], _ => ([], none)
  | n + 1, b :: r, p => if blank b = true then scanS n r (p + 1) else
    if (tk (b :: r)).2.2 ≠ 0 then ([], some (p, (tk (b :: r)).2.2)) else
    (⟨(tk (b :: r)).1, (b :: r).take (tk (b :: r)).2.1, (p : Int)⟩ :: (scanS n ((b :: r).drop (tk (b :: r)).2.1) (p + (tk (b :: r)).2.1)).1, (scanS n ((b :: r).drop (tk (b :: r)).2.1) (p + (tk (b :: r)).2.1)).2)
theorem take_takeWhile {α : Type} (p : α → Bool) : ∀ s : List α, s.take (s.takeWhile p).length = s.takeWhile p
  | [] => rfl
  | b :: r => by
    rw [List.takeWhile_cons]
    split
    · rw [List.length_cons, List.take_succ_cons, take_takeWhile p r]
    · rfl
theorem takeWhile_le {α : Type} (p : α → Bool) (s : List α) : (s.takeWhile p).length ≤ s.length := by
  have := congrArg List.length (take_takeWhile p s)
  rw [List.length_take] at this
  omega
theorem letter_inner {b : UInt8} (h : letter b = true) : inner b = true := by unfold inner; rw [h]; rfl
theorem tk_len {b : UInt8} {r : List UInt8} (h : (tk (b :: r)).2.2 = 0) : 1 ≤ (tk (b :: r)).2.1 ∧ (tk (b :: r)).2.1 ≤ (b :: r).length := by
  unfold tk at h ⊢
  dsimp only at h ⊢
  by_cases h1 : letter b = true
  · rw [if_pos h1]
    refine ⟨?_, takeWhile_le _ _⟩
    dsimp only
    rw [List.takeWhile_cons, if_pos (letter_inner h1)]
    simp
  · rw [if_neg h1] at h ⊢
    by_cases h2 : isD b = true
    · rw [if_pos h2]
      refine ⟨?_, takeWhile_le _ _⟩
      dsimp only
      rw [List.takeWhile_cons, if_pos h2]
      simp
    · rw [if_neg h2] at h ⊢
      by_cases h3 : signB b = true
      · rw [if_pos h3]; simp
      · rw [if_neg h3] at h; simp at h
/-! ### the checks, with what comes behind -/
theorem word_k {R : Type} (s : List UInt8) (hb : s.length ≤ 4611686018427387904) (k2 : Int → Option R) :
    ((if (s == []) = true then some true else (byteAt s 0).bind fun b15 => (lexer_class (b15.toNat : Int)).bind fun r3 => some (r3 != 1)).bind fun c1 =>
      (if c1 = true then some true else (lexer_run s ([1, 2, 3] : List Int)).bind fun r4 => some (r4 != (s.length : Int))).bind fun c2 =>
      if c2 = true then k2 3 else if (decide ((s.length : Int) > 24)) = true then k2 17 else k2 0) = k2 (word s) := by
  have h := congrArg (fun o => o.bind k2) (lword_eq s hb)
  unfold lexer_Word at h
  rw [Option.bind_some] at h
  rw [← h]
  simp only [Option.bind_assoc]
  congr 1
  funext c1
  congr 1
  funext c2
  split
  · rfl
  · split <;> rfl
theorem num_k {R : Type} (s : List UInt8) (hb : s.length ≤ 4611686018427387904) (k2 : Int → Option R) :
    ((if (s == []) = true then some true else (lexer_run s ([2] : List Int)).bind fun r6 => some (r6 != (s.length : Int))).bind fun c3 =>
      (if c3 = true then some true else (byteAt s 0).bind fun b21 => some (((b21.toNat : Int) == 48) && (!(s == [48])))).bind fun c4 =>
      if c4 = true then k2 3 else if (decide ((s.length : Int) > 7)) = true then k2 17 else k2 0) = k2 (num s) := by
  have h := congrArg (fun o => o.bind k2) (lnum_eq s hb)
  unfold lexer_Number at h
  rw [Option.bind_some] at h
  rw [← h]
  simp only [Option.bind_assoc]
  congr 1
  funext c1
  congr 1
  funext c2
  split
  · rfl
  · split <;> rfl
theorem cut_from {T pre r : List UInt8} (e : T = pre ++ r) : cut T (pre.length : Int) (T.length : Int) = some r := by
  rw [e, cut_drop (by simp)]
  simp
theorem cut_range {T pre r : List UInt8} {q : Nat} (e : T = pre ++ r) (hT : T.length ≤ 1000000) (hq : q ≤ r.length) : cut T (pre.length : Int) (IntKind.wrap .i64 ((pre.length : Int) + (q : Int))) = some (r.take q) := by
  have hl : T.length = pre.length + r.length := by rw [e]; simp
  rw [wrap64 (by omega) (by omega)]
  unfold cut
  rw [if_pos ⟨by omega, by omega, by omega⟩, e]
  congr 1
  rw [show ((pre.length : Int)).toNat = pre.length by omega, show ((pre.length : Int) + (q : Int)).toNat - pre.length = q by omega]
  simp
theorem blank_cls (b : UInt8) : (cls b == 5) = blank b := by
  have h : ((List.range 256).all fun n => (cls n.toUInt8 == 5) == blank n.toUInt8) = true := by kernel_rfl
  have := List.all_eq_true.1 h b.toNat (List.mem_range.2 (UInt8.toNat_lt b))
  have e : b.toNat.toUInt8 = b := by simp
  rw [e, beq_iff_eq] at this
  exact this
theorem cls_of_letter {b : UInt8} (h : letter b = true) : cls b = 1 := by unfold cls; rw [if_pos h]
theorem cls_of_digit {b : UInt8} (h : letter b = false) (h2 : isD b = true) : cls b = 2 := by unfold cls; rw [h, if_neg (by simp), if_pos h2]
theorem cls_of_sign {b : UInt8} (h : letter b = false) (h2 : isD b = false) (h3 : signB b = true) : cls b = 4 := by
  have q : ((List.range 256).all fun n => !(signB n.toUInt8) || !(letter n.toUInt8 == false) || !(isD n.toUInt8 == false) || cls n.toUInt8 == 4) = true := by kernel_rfl
  have := List.all_eq_true.1 q b.toNat (List.mem_range.2 (UInt8.toNat_lt b))
  have e : b.toNat.toUInt8 = b := by simp
  rw [e] at this
  simpa [h, h2, h3] using this
theorem cls_of_none {b : UInt8} (h : letter b = false) (h2 : isD b = false) (h3 : signB b = false) (h5 : blank b = false) : cls b = 0 ∨ cls b = 3 := by
  have q : ((List.range 256).all fun n => (signB n.toUInt8) || (letter n.toUInt8) || (isD n.toUInt8) || (blank n.toUInt8) || cls n.toUInt8 == 0 || cls n.toUInt8 == 3) = true := by kernel_rfl
  have := List.all_eq_true.1 q b.toNat (List.mem_range.2 (UInt8.toNat_lt b))
  have e : b.toNat.toUInt8 = b := by simp
  rw [e] at this
  simpa [h, h2, h3, h5] using this
theorem sub1 {n : Int} (h : 1 ≤ n) : (if n > 1 then n else 1) = n := by split <;> omega
/-- what comes behind the tokens of a text -/
def thenK (p : List Token × Option (Nat × Int)) (acc : List Token) (k : List Token → Option (List Token × Int × Int)) : Option (List Token × Int × Int) :=
  match p.2 with
  | none => k (acc ++ p.1)
  | some (q, e) => some ([], (q : Int), e)
theorem jscan_loop (T : List UInt8) (hT : T.length ≤ 4096) (k : List Token → Option (List Token × Int × Int)) : ∀ (n : Nat) (r pre : List UInt8) (acc : List Token) (f : Nat), r.length ≤ n → r.length < f → T = pre ++ r → acc.length ≤ pre.length →
    lexer_Scan_loop1 T k f (pre.length : Int) acc = thenK (scanS n r pre.length) acc k
  | n, [], pre, acc, 0, _, hf, _, _ => by simp at hf
  | n, [], pre, acc, f + 1, _, _, e, _ => by
    unfold lexer_Scan_loop1
    rw [e, ge_end]
    cases n <;> simp [scanS, thenK]
  | 0, b :: r, pre, acc, f, h, _, _, _ => by simp at h
  | n + 1, b :: r, pre, acc, 0, _, h, _, _ => by simp at h
  | n + 1, b :: r, pre, acc, f + 1, hn, hf, e, ha => by
    have hl : T.length = pre.length + (r.length + 1) := by rw [e]; simp
    have hn' : r.length ≤ n := by simpa using hn
    have hf' : r.length < f := by simpa using hf
    have hb : byteAt T (pre.length : Int) = some b := by rw [e]; exact byteAt_mid
    have c1 : decide ((pre.length : Int) < (T.length : Int)) = true := decide_eq_true (by omega)
    have hpre1 : IntKind.wrap .i64 ((pre.length : Int) + 1) = (((pre ++ [b]).length : Nat) : Int) := by rw [wrap64 (by omega) (by omega)]; simp
    unfold lexer_Scan_loop1 joinK
    dsimp only
    rw [if_pos c1, hb, Option.bind_some, (cls_eq b).1, Option.bind_some, blank_cls, scanS]
    by_cases h5 : blank b = true
    · rw [if_pos h5, if_pos h5, hpre1]
      have := jscan_loop T hT k n r (pre ++ [b]) acc f hn' hf' (by rw [e, mid_cons]) (by simp; omega)
      rw [this]
      simp
    · have h5' : blank b = false := by simpa using h5
      simp only [h5', Bool.false_eq_true, if_false]
      rw [cut_from e]
      simp only [Option.bind_some]
      -- behind a token
      have step : ∀ (q : Nat) (kind : Int), 1 ≤ q → q ≤ (b :: r).length →
          lexer_Scan_loop1 T k f (IntKind.wrap .i64 ((pre.length : Int) + (q : Int))) (acc ++ [Token.mk kind ((b :: r).take q) (pre.length : Int)]) =
          thenK (scanS n ((b :: r).drop q) (pre.length + q)) (acc ++ [Token.mk kind ((b :: r).take q) (pre.length : Int)]) k := by
        intro q kind hq1 hq2
        have hq3 : q ≤ r.length + 1 := by simpa using hq2
        have el : (pre ++ (b :: r).take q).length = pre.length + q := by rw [List.length_append, List.length_take, Nat.min_eq_left hq2]
        have := jscan_loop T hT k n ((b :: r).drop q) (pre ++ (b :: r).take q) (acc ++ [Token.mk kind ((b :: r).take q) (pre.length : Int)]) f (by rw [List.length_drop, List.length_cons]; omega) (by rw [List.length_drop, List.length_cons]; omega)
          (by rw [e, List.append_assoc, List.take_append_drop]) (by rw [List.length_append, List.length_append, List.length_take, Nat.min_eq_left hq2]; simp; omega)
        rw [el] at this
        rw [wrap64 (by omega) (by omega), ← this]
        simp
      have thk : ∀ (q : Nat) (t : Token), thenK (scanS n ((b :: r).drop q) (pre.length + q)) (acc ++ [t]) k = thenK (t :: (scanS n ((b :: r).drop q) (pre.length + q)).1, (scanS n ((b :: r).drop q) (pre.length + q)).2) acc k := by
        intro q t
        unfold thenK
        cases (scanS n ((b :: r).drop q) (pre.length + q)).2 <;> simp
      have app : ∀ t : Token, appO 32 acc [t] = some (acc ++ [t]) := fun t => appO_ok (by simp; omega) (by decide)
      have n0 : ((0 : Int) != 0) = false := rfl
      have n4 : ((4 : Int) != 0) = true := rfl
      by_cases hL : letter b = true
      · have hq1 : 1 ≤ ((b :: r).takeWhile inner).length := by rw [List.takeWhile_cons, if_pos (letter_inner hL)]; simp
        have hq2 := takeWhile_le inner (b :: r)
        rw [cls_of_letter hL, if_neg (by decide), if_pos (by decide), runI_val _ (by simp at hq2 ⊢; omega), Option.bind_some, sub1 (by omega), cut_range e (by omega) hq2, take_takeWhile]
        simp only [Option.bind_some]
        refine (word_k ((b :: r).takeWhile inner) (by simp at hq2 ⊢; omega) (fun (i2 : Int) => if (i2 != 0) = true then some ([], (pre.length : Int), i2) else
          (appO 32 acc ([(Token.mk 0 ((b :: r).takeWhile inner) (pre.length : Int))] : List Token)).bind fun _ => if (i2 != 0) = true then some ((acc ++ ([(Token.mk 0 ((b :: r).takeWhile inner) (pre.length : Int))] : List Token)), 0, 0) else
          lexer_Scan_loop1 T k f (IntKind.wrap .i64 ((pre.length : Int) + (((b :: r).takeWhile inner).length : Int))) (acc ++ ([(Token.mk 0 ((b :: r).takeWhile inner) (pre.length : Int))] : List Token)))).trans ?_
        have ht : tk (b :: r) = (0, ((b :: r).takeWhile inner).length, word ((b :: r).takeWhile inner)) := by unfold tk; dsimp only; rw [if_pos hL]
        rw [ht]
        dsimp only
        by_cases hw : word ((b :: r).takeWhile inner) = 0
        · rw [hw, n0, if_neg (by simp), app, Option.bind_some, if_neg (by simp), if_neg (by simp)]
          have s1 := step _ 0 hq1 hq2
          rw [take_takeWhile, thk] at s1
          rw [take_takeWhile]
          exact s1
        · rw [if_pos (by simpa using hw), if_pos hw]
          rfl
      · have hL' : letter b = false := by simpa using hL
        by_cases hD : isD b = true
        · have hq1 : 1 ≤ ((b :: r).takeWhile isD).length := by rw [List.takeWhile_cons, if_pos hD]; simp
          have hq2 := takeWhile_le isD (b :: r)
          rw [cls_of_digit hL' hD, if_neg (by decide), if_neg (by decide), if_pos (by decide), runD_val _ (by simp at hq2 ⊢; omega), Option.bind_some, sub1 (by omega), cut_range e (by omega) hq2, take_takeWhile]
          simp only [Option.bind_some]
          refine (num_k ((b :: r).takeWhile isD) (by simp at hq2 ⊢; omega) (fun (i2 : Int) => if (i2 != 0) = true then some ([], (pre.length : Int), i2) else
            (appO 32 acc ([(Token.mk 1 ((b :: r).takeWhile isD) (pre.length : Int))] : List Token)).bind fun _ => if (i2 != 0) = true then some ((acc ++ ([(Token.mk 1 ((b :: r).takeWhile isD) (pre.length : Int))] : List Token)), 0, 0) else
            lexer_Scan_loop1 T k f (IntKind.wrap .i64 ((pre.length : Int) + (((b :: r).takeWhile isD).length : Int))) (acc ++ ([(Token.mk 1 ((b :: r).takeWhile isD) (pre.length : Int))] : List Token)))).trans ?_
          have ht : tk (b :: r) = (1, ((b :: r).takeWhile isD).length, num ((b :: r).takeWhile isD)) := by unfold tk; dsimp only; rw [if_neg hL, if_pos hD]
          rw [ht]
          dsimp only
          by_cases hw : num ((b :: r).takeWhile isD) = 0
          · rw [hw, n0, if_neg (by simp), app, Option.bind_some, if_neg (by simp), if_neg (by simp)]
            have s1 := step _ 1 hq1 hq2
            rw [take_takeWhile, thk] at s1
            rw [take_takeWhile]
            exact s1
          · rw [if_pos (by simpa using hw), if_pos hw]
            rfl
        · have hD' : isD b = false := by simpa using hD
          by_cases hS : signB b = true
          · rw [cls_of_sign hL' hD' hS, if_neg (by decide), if_neg (by decide), if_neg (by decide), if_neg (by decide), if_pos (by decide), run0_val, Option.bind_some]
            have c01 : (if (0 : Int) > 1 then (0 : Int) else 1) = ((1 : Nat) : Int) := rfl
            have ht : tk (b :: r) = (2, 1, 0) := by unfold tk; dsimp only; rw [if_neg hL, if_neg hD, if_pos hS]
            rw [c01, cut_range e (by omega) (by simp), ht]
            simp only [Option.bind_some]
            rw [n0, if_neg (by simp), app, Option.bind_some, if_neg (by simp), if_neg (by simp)]
            have s1 := step 1 2 (by omega) (by simp)
            rw [thk] at s1
            exact s1
          · have hS' : signB b = false := by simpa using hS
            have ht : tk (b :: r) = (0, 0, 4) := by unfold tk; dsimp only; rw [if_neg hL, if_neg hD, if_neg hS]
            rcases cls_of_none hL' hD' hS' h5' with hc | hc
            · rw [hc, if_pos (by decide), if_pos (by decide), ht]; rfl
            · rw [hc, if_neg (by decide), if_neg (by decide), if_neg (by decide), if_pos (by decide), if_pos (by decide), ht]; rfl
/-! ### the reference -/
theorem byteAt_zero (b : UInt8) (r : List UInt8) : byteAt (b :: r) 0 = some b := rfl
theorem next_loop1 (s : List UInt8) (k : Int → Option (Int × Int × Int)) (hs : s.length ≤ 4096) : ∀ (r pre : List UInt8), s = pre ++ r → ref12_next_loop1 s k (r.length + 1) (pre.length : Int) = k ((pre.length + (r.takeWhile inner).length : Nat) : Int)
  | [], pre, e => by
    unfold ref12_next_loop1
    rw [e, ge_end]
    simp
  | x :: r, pre, e => by
    unfold ref12_next_loop1
    rw [e, lt_mid, if_pos rfl, byteAt_mid, Option.bind_some, (inner_eq x).1, Option.bind_some, Option.bind_some, List.takeWhile_cons]
    cases hx : inner x
    · simp
    · rw [if_pos rfl, if_pos rfl, wrap_mid (x := x) (r := r) (by rw [← e]; omega), ← e]
      refine Eq.trans (next_loop1 s k hs r (pre ++ [x]) (by rw [e, mid_cons])) ?_
      congr 2
      simp
      omega
theorem next_loop2 (s : List UInt8) (k : Int → Option (Int × Int × Int)) (hs : s.length ≤ 4096) : ∀ (r pre : List UInt8), s = pre ++ r → ref12_next_loop2 s k (r.length + 1) (pre.length : Int) = k ((pre.length + (r.takeWhile isD).length : Nat) : Int)
  | [], pre, e => by
    unfold ref12_next_loop2
    rw [e, ge_end]
    simp
  | x :: r, pre, e => by
    unfold ref12_next_loop2
    rw [e, lt_mid, if_pos rfl, byteAt_mid, Option.bind_some, digit_eq x, Option.bind_some, Option.bind_some, List.takeWhile_cons]
    cases hx : isD x
    · simp
    · rw [if_pos rfl, if_pos rfl, wrap_mid (x := x) (r := r) (by rw [← e]; omega), ← e]
      refine Eq.trans (next_loop2 s k hs r (pre ++ [x]) (by rw [e, mid_cons])) ?_
      congr 2
      simp
      omega
theorem next_eq (b : UInt8) (r : List UInt8) (hs : (b :: r).length ≤ 4096) : ref12_next (b :: r) = some ((tk (b :: r)).1, ((tk (b :: r)).2.1 : Int), (tk (b :: r)).2.2) := by
  have l1 := next_loop1 (b :: r) (fun i2 => (cut (b :: r) 0 i2).bind fun s1 => (ref12_Word s1).bind fun r3 => some (0, i2, r3)) hs (b :: r) [] rfl
  have l2 := next_loop2 (b :: r) (fun i4 => (cut (b :: r) 0 i4).bind fun s2 => (ref12_Number s2).bind fun r6 => some (1, i4, r6)) hs (b :: r) [] rfl
  have hq1 := takeWhile_le inner (b :: r)
  have hq2 := takeWhile_le isD (b :: r)
  unfold ref12_next joinK
  dsimp only
  simp only [List.length_nil, Int.natCast_zero] at l1 l2
  rw [l1, l2]
  simp only [byteAt_zero, Option.bind_some, (inner_eq b).2, digit_eq, (cls_eq b).2]
  unfold tk
  dsimp only
  cases hL : letter b
  · cases hD : isD b
    · cases hS : signB b
      · simp
      · simp
    · simp only [Bool.false_eq_true, if_false, if_true, Nat.zero_add]
      rw [cut_take hq2, take_takeWhile, Option.bind_some, rnum_eq _ (by omega)]
      simp
  · simp only [if_true, Nat.zero_add]
    rw [cut_take hq1, take_takeWhile, Option.bind_some, rword_eq _ (by omega)]
    simp
theorem blank_ref (b : UInt8) : (((b.toNat : Int) == 32) || ((b.toNat : Int) == 10)) = blank b := by
  have h : ((List.range 256).all fun n => (((n.toUInt8.toNat : Int) == 32) || ((n.toUInt8.toNat : Int) == 10)) == blank n.toUInt8) = true := by kernel_rfl
  have := List.all_eq_true.1 h b.toNat (List.mem_range.2 (UInt8.toNat_lt b))
  have e : b.toNat.toUInt8 = b := by simp
  rw [e, beq_iff_eq] at this
  exact this
theorem rscan_loop (T : List UInt8) (hT : T.length ≤ 4096) (k : List Token → Option (List Token × Int × Int)) : ∀ (n : Nat) (r pre : List UInt8) (acc : List Token) (f : Nat), r.length ≤ n → r.length < f → T = pre ++ r → acc.length ≤ pre.length →
    ref12_Scan_loop1 T k f (pre.length : Int) acc = thenK (scanS n r pre.length) acc k
  | n, [], pre, acc, 0, _, hf, _, _ => by simp at hf
  | n, [], pre, acc, f + 1, _, _, e, _ => by
    unfold ref12_Scan_loop1
    rw [e, ge_end]
    cases n <;> simp [scanS, thenK]
  | 0, b :: r, pre, acc, f, h, _, _, _ => by simp at h
  | n + 1, b :: r, pre, acc, 0, _, h, _, _ => by simp at h
  | n + 1, b :: r, pre, acc, f + 1, hn, hf, e, ha => by
    have hl : T.length = pre.length + (r.length + 1) := by rw [e]; simp
    have hn' : r.length ≤ n := by simpa using hn
    have hf' : r.length < f := by simpa using hf
    have hb : byteAt T (pre.length : Int) = some b := by rw [e]; exact byteAt_mid
    have c1 : decide ((pre.length : Int) < (T.length : Int)) = true := decide_eq_true (by omega)
    have hpre1 : IntKind.wrap .i64 ((pre.length : Int) + 1) = (((pre ++ [b]).length : Nat) : Int) := by rw [wrap64 (by omega) (by omega)]; simp
    have hbl : (if ((b.toNat : Int) == 32) = true then some true else some ((b.toNat : Int) == 10)) = some (blank b) := by
      rw [← blank_ref]
      cases ((b.toNat : Int) == 32) <;> simp
    unfold ref12_Scan_loop1
    rw [if_pos c1, hb]
    simp only [Option.bind_some]
    rw [hbl, Option.bind_some, scanS]
    by_cases h5 : blank b = true
    · rw [if_pos h5, if_pos h5, hpre1]
      have := rscan_loop T hT k n r (pre ++ [b]) acc f hn' hf' (by rw [e, mid_cons]) (by simp; omega)
      rw [this]
      simp
    · rw [if_neg h5, if_neg h5, cut_from e, Option.bind_some, next_eq b r (by simp; omega), Option.bind_some]
      dsimp only
      by_cases hw : (tk (b :: r)).2.2 = 0
      · obtain ⟨hq1, hq2⟩ := tk_len hw
        have hq3 : (tk (b :: r)).2.1 ≤ r.length + 1 := by simpa using hq2
        rw [if_neg (by simpa using hw), if_neg (by simpa using hw), cut_range e (by omega) hq2, Option.bind_some, appO_ok (by simp; omega) (by decide), Option.bind_some]
        have el : (pre ++ (b :: r).take (tk (b :: r)).2.1).length = pre.length + (tk (b :: r)).2.1 := by rw [List.length_append, List.length_take, Nat.min_eq_left hq2]
        have := rscan_loop T hT k n ((b :: r).drop (tk (b :: r)).2.1) (pre ++ (b :: r).take (tk (b :: r)).2.1) (acc ++ [Token.mk (tk (b :: r)).1 ((b :: r).take (tk (b :: r)).2.1) (pre.length : Int)]) f (by rw [List.length_drop, List.length_cons]; omega) (by rw [List.length_drop, List.length_cons]; omega)
          (by rw [e, List.append_assoc, List.take_append_drop]) (by rw [List.length_append, List.length_append, List.length_take, Nat.min_eq_left hq2]; simp; omega)
        rw [el] at this
        rw [wrap64 (by omega) (by omega), show ((pre.length : Int) + ((tk (b :: r)).2.1 : Int)) = ((pre.length + (tk (b :: r)).2.1 : Nat) : Int) by simp, this]
        unfold thenK
        dsimp only
        cases (scanS n ((b :: r).drop (tk (b :: r)).2.1) (pre.length + (tk (b :: r)).2.1)).2 <;> simp
      · rw [if_pos (by simpa using hw), if_pos (by simpa using hw)]
        rfl
def endT (s : List UInt8) : Token := ⟨3, [], (s.length : Int)⟩
def scanR (s : List UInt8) : List Token × Int × Int := if 4096 < s.length then ([], 0, 17) else
  match (scanS s.length s 0).2 with
  | none => ((scanS s.length s 0).1 ++ [endT s], 0, 0)
  | some (p, e) => ([], (p : Int), e)
theorem scanS_len : ∀ (n : Nat) (s : List UInt8) (p : Nat), (scanS n s p).1.length ≤ s.length
  | 0, _, _ => by simp [scanS]
  | _ + 1, [], _ => by simp [scanS]
  | n + 1, b :: r, p => by
    rw [scanS]
    split
    · have := scanS_len n r (p + 1); simp; omega
    · split
      · simp
      · rename_i h
        have h0 : (tk (b :: r)).2.2 = 0 := Decidable.not_not.1 h
        obtain ⟨hq1, hq2⟩ := tk_len h0
        have := scanS_len n ((b :: r).drop (tk (b :: r)).2.1) (p + (tk (b :: r)).2.1)
        rw [List.length_drop] at this
        simp only [List.length_cons] at this hq2 ⊢
        omega
theorem jscan_eq (s : List UInt8) : lexer_Scan s = some (scanR s) := by
  unfold lexer_Scan scanR
  by_cases h : 4096 < s.length
  · rw [if_pos (decide_eq_true (by omega)), if_pos h]
  · rw [if_neg (by rw [decide_eq_true_eq]; omega), if_neg h]
    unfold joinK
    dsimp only
    rw [fuel0]
    have := jscan_loop s (by omega) (fun l9 => if ((0 : Int) != 0) = true then some ([], (s.length : Int), 0) else (appO 32 l9 ([(Token.mk 3 [] (s.length : Int))] : List Token)).bind fun _ => some ((l9 ++ ([(Token.mk 3 [] (s.length : Int))] : List Token)), 0, 0)) s.length s [] [] (s.length + 1) (Nat.le_refl _) (by omega) rfl (by simp)
    refine Eq.trans this ?_
    unfold thenK
    have hl := scanS_len s.length s 0
    simp only [List.length_nil, List.nil_append]
    cases (scanS s.length s 0).2 with
    | none =>
      dsimp only
      rw [if_neg (by decide), appO_ok (by simp; omega) (by decide)]
      rfl
    | some q => rfl
theorem rscan_eq (s : List UInt8) : ref12_Scan s = some (scanR s) := by
  unfold ref12_Scan scanR
  by_cases h : 4096 < s.length
  · rw [if_pos (decide_eq_true (by omega)), if_pos h]
  · rw [if_neg (by rw [decide_eq_true_eq]; omega), if_neg h]
    unfold joinK
    dsimp only
    rw [fuel0]
    have := rscan_loop s (by omega) (fun l9 => (appO 32 l9 ([(Token.mk 3 [] (s.length : Int))] : List Token)).bind fun _ => some ((l9 ++ ([(Token.mk 3 [] (s.length : Int))] : List Token)), 0, 0)) s.length s [] [] (s.length + 1) (Nat.le_refl _) (by omega) rfl (by simp)
    refine Eq.trans this ?_
    unfold thenK
    have hl := scanS_len s.length s 0
    simp only [List.length_nil, List.nil_append]
    cases (scanS s.length s 0).2 with
    | none =>
      dsimp only
      rw [appO_ok (by simp; omega) (by decide)]
      rfl
    | some q => rfl
theorem eqT_loop (l : List Token) (k : Option Bool) (hb : l.length ≤ 4611686018427387904) : ∀ (r pre : List Token), l = pre ++ r → slices_Equal_api_Tokenapi_Token_loop1 l l k (r.length + 1) (pre.length : Int) = k
  | [], pre, e => by
    unfold slices_Equal_api_Tokenapi_Token_loop1
    rw [e, ge_end]
    simp
  | x :: r, pre, e => by
    unfold slices_Equal_api_Tokenapi_Token_loop1
    rw [e, lt_mid, if_pos rfl, at?_mid, Option.bind_some, Option.bind_some, wrap_mid (x := x) (r := r) (by rw [← e]; exact hb), ← e]
    simp only [BEq.rfl, Bool.not_true, Bool.false_eq_true, if_false]
    exact eqT_loop l k hb r (pre ++ [x]) (by rw [e, mid_cons])
theorem eqT_eq (l : List Token) (hb : l.length ≤ 4611686018427387904) : slices_Equal_api_Tokenapi_Token l l = some true := by
  unfold slices_Equal_api_Tokenapi_Token joinK
  dsimp only
  rw [if_neg (by simp), fuel0]
  exact eqT_loop l (some true) hb l [] rfl
theorem scanR_len (s : List UInt8) : (scanR s).1.length ≤ 4097 := by
  unfold scanR
  split
  · simp
  · have := scanS_len s.length s 0
    split
    · simp; omega
    · simp
theorem law_Scans (s : List UInt8) : law12_LexerScans s = some true := by
  unfold law12_LexerScans
  obtain ⟨b, hb, _⟩ := short_eq s
  have := scanR_len s
  rw [hb, Option.bind_some, awake_true, jscan_eq, rscan_eq]
  cases b <;> simp [eqT_eq (scanR s).1 (by omega)]
end Go.Proofs.YtmfphbdafgmplaaDoor.W
