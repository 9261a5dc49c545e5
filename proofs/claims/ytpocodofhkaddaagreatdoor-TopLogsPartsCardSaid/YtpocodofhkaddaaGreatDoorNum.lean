/- The plain laws of numbers: lexer_Number, lexer_Value and the reference's. No program in sight. -/
import Derived.Test.YtpocodofhkaddaaGreatDoorLawG
import Derived.Test.YtpocodofhkaddaaGreatDoorLibN
set_option linter.unusedVariables false
set_option linter.unusedSimpArgs false
set_option maxHeartbeats 2000000
namespace Go.Proofs.YtpocodofhkaddaaGreatDoor.W
open Go Go.RowKit
instance (s : List UInt8) : Decidable (noLead s) := by unfold noLead; infer_instance
/-- the error of a number -/
def num (s : List UInt8) : Int := if s = [] then 3 else if s.all isD = false then 3 else if ¬ noLead s then 3 else if 7 < s.length then 17 else 0
theorem num_zero {s : List UInt8} : num s = 0 ↔ s ≠ [] ∧ (∀ b ∈ s, isD b = true) ∧ noLead s ∧ s.length ≤ 7 := by
  unfold num
  constructor
  · intro h
    split at h
    · cases h
    · rename_i h1
      split at h
      · cases h
      · rename_i h2
        split at h
        · cases h
        · rename_i h3
          split at h
          · cases h
          · rename_i h4
            exact ⟨h1, List.all_eq_true.1 (by simpa using h2), Decidable.not_not.1 h3, by omega⟩
  · rintro ⟨h1, h2, h3, h4⟩
    rw [if_neg h1, if_neg (by rw [List.all_eq_true.2 h2]; simp), if_neg (fun q => q h3), if_neg (by omega)]
theorem num_dec {n : Nat} (h : n ≤ 9999999) : num (Lib.decDigits n) = 0 := num_zero.2 ⟨dec_ne n, dec_all n, dec_lead n, dec_len 6 n (by omega)⟩
theorem wrapU8 {x : Int} (h : 0 ≤ x) (k : x ≤ 255) : IntKind.wrap .u8 x = x := by
  simp only [IntKind.wrap, IntKind.signed, IntKind.bits]
  simp
  omega
theorem digit_step {b : UInt8} (h : isD b = true) : IntKind.wrap .i64 (IntKind.wrap .u8 ((b.toNat : Int) - 48)) = ((b.toNat - 48 : Nat) : Int) := by
  have := isD_iff.1 h
  rw [wrapU8 (by omega) (by omega), wrap64 (by omega) (by omega)]
  omega
theorem class2_all : ((List.range 256).all fun n => match lexer_class (n : Int) with | some c => (c == 2) == isD n.toUInt8 | none => false) = true := by kernel_rfl
theorem class2_eq (b : UInt8) : ∃ c, lexer_class (b.toNat : Int) = some c ∧ (c == 2) = isD b := by
  have h := List.all_eq_true.1 class2_all b.toNat (List.mem_range.2 (UInt8.toNat_lt b))
  split at h
  · rename_i c hc
    rw [beq_iff_eq] at h
    have e : b.toNat.toUInt8 = b := by simp
    rw [e] at h
    exact ⟨c, hc, h⟩
  · cases h
theorem run_in2 {s : List UInt8} {i : Int} {b : UInt8} (k3 : Bool → Option Int) (h : byteAt s i = some b) : lexer_run_loop2 s [2] i k3 2 false 0 = k3 (isD b) := by
  obtain ⟨c, h1, h2⟩ := class2_eq b
  rw [← h2]
  by_cases e1 : c = 2
  · simp [lexer_run_loop2, at?, h, h1, e1, wrap01]
  · simp [lexer_run_loop2, at?, h, h1, e1, wrap01]
theorem run_loopD (s : List UInt8) (k : Option Int) (hb : s.length ≤ 4611686018427387904) : ∀ (r pre : List UInt8), s = pre ++ r → lexer_run_loop1 s [2] k (r.length + 1) (pre.length : Int) = if r.all isD = true then k else some ((pre.length + (r.takeWhile isD).length : Nat) : Int)
  | [], pre, e => by
    unfold lexer_run_loop1
    rw [e, ge_end]
    simp
  | x :: r, pre, e => by
    unfold lexer_run_loop1 joinK
    dsimp only
    have hf : (Int.toNat (((([2] : List Int).length : Nat) : Int) - 0) + 1) = 2 := rfl
    rw [e, lt_mid, if_pos rfl, wrap_mid (x := x) (r := r) (by rw [← e]; exact hb), ← e, hf, run_in2 _ (by rw [e]; exact byteAt_mid)]
    have ih := run_loopD s k hb r (pre ++ [x]) (by rw [e, mid_cons])
    cases hx : isD x
    · simp [hx]
    · simp only [hx, Bool.not_true, Bool.false_eq_true, if_false]
      refine ih.trans ?_
      simp only [List.all_cons, hx, Bool.true_and, List.takeWhile_cons, if_true, List.length_append, List.length_cons, List.length_nil]
      split
      · rfl
      · congr 2
        omega
theorem takeWhile_lt {p : UInt8 → Bool} : ∀ {s : List UInt8}, s.all p = false → (s.takeWhile p).length < s.length
  | [], h => by simp at h
  | x :: r, h => by
    rw [List.takeWhile_cons]
    cases hx : p x
    · simp
    · rw [List.all_cons, hx, Bool.true_and] at h
      simp only [if_true, List.length_cons]
      have := takeWhile_lt h
      omega
theorem runD_eq (s : List UInt8) (hb : s.length ≤ 4611686018427387904) : lexer_run s [2] = some (if s.all isD = true then (s.length : Int) else (((s.takeWhile isD).length : Nat) : Int)) := by
  unfold lexer_run joinK
  rw [fuel0]
  have e0 := run_loopD s (some (s.length : Int)) hb s [] rfl
  simp only [List.length_nil, Int.natCast_zero, Nat.zero_add] at e0
  simp only [e0]
  split <;> rfl
theorem lead_iff (b : UInt8) (r : List UInt8) : noLead (b :: r) ↔ ¬ (b = 48 ∧ r ≠ []) := by
  unfold noLead
  constructor
  · rintro (h | h) ⟨h1, h2⟩
    · cases r with
      | nil => exact h2 rfl
      | cons _ _ => simp at h
    · exact h (by rw [h1]; rfl)
  · intro h
    by_cases h2 : r = []
    · left; rw [h2]; simp
    · right
      intro h1
      exact h ⟨by simpa using h1, h2⟩
theorem b48 (b : UInt8) : ((b.toNat : Int) == 48) = (b == 48) := by
  rw [Bool.eq_iff_iff, beq_iff_eq, beq_iff_eq]
  constructor
  · intro h
    exact UInt8.toNat_inj.1 (by have : (48 : UInt8).toNat = 48 := rfl; omega)
  · intro h; rw [h]; rfl
theorem b45 (b : UInt8) : ((b.toNat : Int) == 45) = (b == 45) := by
  rw [Bool.eq_iff_iff, beq_iff_eq, beq_iff_eq]
  constructor
  · intro h
    exact UInt8.toNat_inj.1 (by have : (45 : UInt8).toNat = 45 := rfl; omega)
  · intro h; rw [h]; rfl
theorem lnum_eq (s : List UInt8) (hb : s.length ≤ 4611686018427387904) : lexer_Number s = some (num s) := by
  unfold lexer_Number
  cases s with
  | nil => rfl
  | cons b r =>
    have h0 : byteAt (b :: r) 0 = some b := rfl
    have hn : ((b :: r) == []) = false := rfl
    rw [runD_eq (b :: r) hb]
    simp only [hn, Bool.false_eq_true, if_false, h0, Option.bind_some, b48]
    unfold num
    rw [if_neg (show ¬ (b :: r = ([] : List UInt8)) by simp)]
    cases ha : (b :: r).all isD
    · have := takeWhile_lt ha
      have hne : ((((b :: r).takeWhile isD).length : Nat) : Int) != (((b :: r).length : Nat) : Int) := by
        rw [bne_iff_ne]; omega
      simp only [Bool.false_eq_true, if_false, hne, if_true, Option.bind_some]
    · have hne : ((((b :: r).length : Nat) : Int) != (((b :: r).length : Nat) : Int)) = false := by simp
      simp only [if_true, hne, Bool.false_eq_true, if_false, Option.bind_some]
      have hl := lead_iff b r
      have e : (b == 48 && !(b :: r == [48])) = !(decide (noLead (b :: r))) := by
        rw [Bool.eq_iff_iff, Bool.and_eq_true, beq_iff_eq, Bool.not_eq_true', Bool.not_eq_true', beq_eq_false_iff_ne, decide_eq_false_iff_not, hl, Decidable.not_not]
        constructor
        · rintro ⟨h1, h2⟩; exact ⟨h1, fun q => h2 (by rw [h1, q])⟩
        · rintro ⟨h1, h2⟩; exact ⟨h1, fun q => h2 (by cases q; rfl)⟩
      rw [e]
      by_cases hq : noLead (b :: r)
      · rw [if_neg (show ¬ ((!decide (noLead (b :: r))) = true) by simp [hq]), if_neg (show ¬ (true = false) by simp), if_neg (show ¬ ¬ noLead (b :: r) from fun q => q hq), ite_dec]
        have h7 : ((((b :: r).length : Nat) : Int) > 7) ↔ 7 < (b :: r).length := by omega
        simp only [h7]
        split <;> rfl
      · rw [if_pos (show (!decide (noLead (b :: r))) = true by simp [hq]), if_neg (show ¬ (true = false) by simp), if_pos hq]
theorem digit_all : ((List.range 256).all fun n => ref12_Digit (n : Int) == some (isD n.toUInt8)) = true := by kernel_rfl
theorem digit_eq (b : UInt8) : ref12_Digit (b.toNat : Int) = some (isD b) := by
  have h := List.all_eq_true.1 digit_all b.toNat (List.mem_range.2 (UInt8.toNat_lt b))
  rw [beq_iff_eq] at h
  have e : b.toNat.toUInt8 = b := by simp
  rwa [e] at h
theorem rnum_loop (s : List UInt8) (k : Option Int) (hb : s.length ≤ 4611686018427387904) : ∀ (r pre : List UInt8), s = pre ++ r → ref12_Number_loop1 s k (r.length + 1) (pre.length : Int) = if r.all isD = true then k else some 3
  | [], pre, e => by
    unfold ref12_Number_loop1
    rw [e, ge_end]
    simp
  | x :: r, pre, e => by
    unfold ref12_Number_loop1
    rw [e, lt_mid, if_pos rfl, byteAt_mid, Option.bind_some, digit_eq, Option.bind_some, wrap_mid (x := x) (r := r) (by rw [← e]; exact hb), ← e]
    cases hx : isD x
    · simp [hx]
    · simp only [hx, Bool.not_true, Bool.false_eq_true, if_false]
      refine (rnum_loop s k hb r (pre ++ [x]) (by rw [e, mid_cons])).trans ?_
      simp [hx]
theorem rnum_eq (s : List UInt8) (hb : s.length ≤ 4611686018427387904) : ref12_Number s = some (num s) := by
  unfold ref12_Number joinK
  cases s with
  | nil => rfl
  | cons b r =>
    have h0 : byteAt (b :: r) 0 = some b := rfl
    have hn : ((((b :: r).length : Nat) : Int) == 0) = false := by simp only [List.length_cons]; simp; omega
    simp only [hn, Bool.false_eq_true, if_false, h0, Option.bind_some, b48]
    have hl := lead_iff b r
    have e : (if decide ((((b :: r).length : Nat) : Int) > 1) = true then some (b == 48) else some false) = some (!(decide (noLead (b :: r)))) := by
      rw [ite_dec]
      cases r with
      | nil => simp [noLead]
      | cons c t =>
        rw [if_pos (by simp only [List.length_cons]; omega)]
        congr 1
        rw [Bool.eq_iff_iff, beq_iff_eq, Bool.not_eq_true', decide_eq_false_iff_not, hl, Decidable.not_not]
        simp
    rw [e, Option.bind_some, Option.bind_some, fuel0]
    have lp := rnum_loop (b :: r) (if decide ((((b :: r).length : Nat) : Int) > 7) = true then some 17 else some 0) hb (b :: r) [] rfl
    simp only [List.length_nil, Int.natCast_zero] at lp
    rw [lp]
    unfold num
    rw [if_neg (show ¬ (b :: r = ([] : List UInt8)) by simp)]
    by_cases hq : noLead (b :: r)
    · rw [if_neg (show ¬ ((!decide (noLead (b :: r))) = true) by simp [hq])]
      cases ha : (b :: r).all isD
      · simp
      · simp only [if_true, Bool.true_eq_false, if_false]
        rw [if_neg (show ¬ ¬ noLead (b :: r) from fun q => q hq), ite_dec]
        have h7 : ((((b :: r).length : Nat) : Int) > 7) ↔ 7 < (b :: r).length := by omega
        simp only [h7]
        split <;> rfl
    · rw [if_pos (show (!decide (noLead (b :: r))) = true by simp [hq])]
      cases ha : (b :: r).all isD
      · simp
      · simp only [Bool.true_eq_false, if_false]
        rw [if_pos hq]
theorem cut_tail (b : UInt8) (r : List UInt8) : cut (b :: r) 1 (((b :: r).length : Nat) : Int) = some r := by
  unfold cut
  rw [if_pos ⟨by omega, by simp only [List.length_cons]; omega, by omega⟩]
  simp
/-- the value of a number with its sign, or an error -/
def valS (s : List UInt8) : Int × Int :=
  if s.head? = some 45 then (if num s.tail ≠ 0 then (0, num s.tail) else if s.tail = [48] then (0, 3) else (-((numV s.tail : Nat) : Int), 0))
  else if num s ≠ 0 then (0, num s) else (((numV s : Nat) : Int), 0)
theorem valS_neg (r : List UInt8) : valS (45 :: r) = if num r ≠ 0 then (0, num r) else if r = [48] then (0, 3) else (-((numV r : Nat) : Int), 0) := if_pos rfl
theorem valS_pos {s : List UInt8} (h : ¬ s.head? = some 45) : valS s = if num s ≠ 0 then (0, num s) else (((numV s : Nat) : Int), 0) := if_neg h
theorem prefix_eq (s : List UInt8) (c : UInt8) (hb : s.length ≤ 4611686018427387904) : strings_CutPrefix s [c] = some (if s.head? = some c then (s.tail, true) else (s, false)) := by
  unfold strings_CutPrefix internal_stringslite_CutPrefix internal_stringslite_HasPrefix
  cases s with
  | nil => rfl
  | cons b r =>
    have c1 : decide ((((b :: r).length : Nat) : Int) ≥ ((([c] : List UInt8).length : Nat) : Int)) = true := decide_eq_true (by simp only [List.length_cons, List.length_nil]; omega)
    have c2 : cut (b :: r) 0 ((([c] : List UInt8).length : Nat) : Int) = some [b] := by
      unfold cut
      rw [if_pos ⟨by omega, by simp only [List.length_cons, List.length_nil]; omega, by simp only [List.length_cons, List.length_nil]; omega⟩]
      rfl
    have c3 : cut (b :: r) ((([c] : List UInt8).length : Nat) : Int) (((b :: r).length : Nat) : Int) = some r := by
      unfold cut
      rw [if_pos ⟨by simp, by simp only [List.length_cons, List.length_nil]; omega, by simp⟩]
      simp
    simp only [c1, if_true, c2, c3, Option.bind_some]
    by_cases h : b = c
    · subst h
      simp
    · have : (([b] : List UInt8) == [c]) = false := by
        rw [beq_eq_false_iff_ne]
        intro q; cases q; exact h rfl
      rw [if_neg (show ¬ ((b :: r).head? = some c) by simpa using h)]
      simp [this]
theorem atoi_loop (s : List UInt8) (k : Int → Option (Int × Unit)) (hl : s.length ≤ 7) (hd : ∀ b ∈ s, isD b = true) : ∀ (r pre : List UInt8), s = pre ++ r →
    internal_strconv_Atoi_loop1 s k (r.length + 1) ((numV pre : Nat) : Int) (pre.length : Int) = k ((numV s : Nat) : Int)
  | [], pre, e => by
    unfold internal_strconv_Atoi_loop1
    have : decide ((pre.length : Int) < ((bytesI s).length : Int)) = false := decide_eq_false (by rw [e]; simp [bytesI])
    rw [if_neg (by rw [this]; decide), e, List.append_nil]
  | x :: r, pre, e => by
    unfold internal_strconv_Atoi_loop1
    have hx : isD x = true := hd x (by rw [e]; simp)
    have hb := isD_iff.1 hx
    have hlen : pre.length + (r.length + 1) = s.length := by rw [e]; simp
    have : decide ((pre.length : Int) < ((bytesI s).length : Int)) = true := decide_eq_true (by simp only [bytesI, List.length_map]; omega)
    have e1 : at? (bytesI s) (pre.length : Int) = some ((x.toNat : Nat) : Int) := by
      have e2 : bytesI s = bytesI pre ++ ((x.toNat : Nat) : Int) :: bytesI r := by rw [e]; simp [bytesI]
      have e3 : (pre.length : Int) = ((bytesI pre).length : Int) := by simp [bytesI]
      rw [e2, e3, at?_mid]
    have hlt : numV pre < 10 ^ pre.length := numV_lt pre (fun b hb => hd b (by rw [e]; simp [hb]))
    have hp : (10 : Nat) ^ pre.length ≤ 1000000 := Nat.le_trans (Nat.pow_le_pow_right (by omega) (show pre.length ≤ 6 by omega)) (by decide)
    have c1 : decide (IntKind.wrap .u8 (((x.toNat : Nat) : Int) - 48) > 9) = false := by
      rw [wrapU8 (by omega) (by omega)]
      exact decide_eq_false (by omega)
    have w1 : IntKind.wrap .i64 (((numV pre : Nat) : Int) * 10) = ((numV pre : Nat) : Int) * 10 := wrap64 (by omega) (by omega)
    have w2 : IntKind.wrap .i64 (((numV pre : Nat) : Int) * 10 + ((x.toNat - 48 : Nat) : Int)) = ((numV (pre ++ [x]) : Nat) : Int) := by
      rw [wrap64 (by omega) (by omega), numV_snoc]
      omega
    have w3 : IntKind.wrap .i64 ((pre.length : Int) + 1) = (((pre ++ [x]).length : Nat) : Int) := by
      rw [wrap64 (by omega) (by omega)]; simp
    rw [if_pos this, e1]
    simp only [Option.bind_some, c1, Bool.false_eq_true, if_false, digit_step hx, w1, w2, w3]
    exact atoi_loop s k hl hd r (pre ++ [x]) (by rw [e, mid_cons])
theorem atoi_pos (b : UInt8) (r : List UInt8) (hl : (b :: r).length ≤ 7) (hd : ∀ c ∈ b :: r, isD c = true) : strconv_Atoi (b :: r) = some (((numV (b :: r) : Nat) : Int), ()) := by
  have hb := isD_iff.1 (hd b (by simp))
  have e0 : byteAt (b :: r) 0 = some b := rfl
  have n45 : ((b.toNat : Int) == 45) = false := by simp; omega
  have n43 : ((b.toNat : Int) == 43) = false := by simp; omega
  have c1 : decide ((0 : Int) < ((b :: r).length : Int)) = true := decide_eq_true (by simp only [List.length_cons]; omega)
  have c2 : decide (((b :: r).length : Int) < 19) = true := decide_eq_true (by simp at hl ⊢; omega)
  have hf : (Int.toNat (((bytesI (b :: r)).length : Int) - 0) + 1) = (b :: r).length + 1 := by simp [bytesI]
  unfold strconv_Atoi internal_strconv_Atoi joinK
  have lp := fun k => atoi_loop (b :: r) k hl hd (b :: r) [] rfl
  simp only [c1, c2, Bool.and_self, if_true, e0, Option.bind_some, n45, n43, Bool.false_eq_true, if_false, hf]
  simp only [List.length_nil, Int.natCast_zero, show ((numV [] : Nat) : Int) = 0 from rfl] at lp
  simp only [lp, Option.bind_some]
theorem atoi_neg (b : UInt8) (r : List UInt8) (hl : (b :: r).length ≤ 7) (hd : ∀ c ∈ b :: r, isD c = true) : strconv_Atoi (45 :: b :: r) = some (-((numV (b :: r) : Nat) : Int), ()) := by
  have e0 : byteAt (45 :: b :: r) 0 = some 45 := rfl
  have n45 : (((45 : UInt8).toNat : Int) == 45) = true := rfl
  have c1 : decide ((0 : Int) < ((45 :: b :: r).length : Int)) = true := decide_eq_true (by simp only [List.length_cons]; omega)
  have c2 : decide (((45 :: b :: r).length : Int) < 19) = true := decide_eq_true (by simp at hl ⊢; omega)
  have hf : (Int.toNat (((bytesI (b :: r)).length : Int) - 0) + 1) = (b :: r).length + 1 := by simp [bytesI]
  have c3 : cut (45 :: b :: r) 1 ((45 :: b :: r).length : Int) = some (b :: r) := cut_tail 45 (b :: r)
  have c4 : decide ((((b :: r).length : Nat) : Int) < 1) = false := decide_eq_false (by simp only [List.length_cons]; omega)
  unfold strconv_Atoi internal_strconv_Atoi joinK
  have lp := fun k => atoi_loop (b :: r) k hl hd (b :: r) [] rfl
  simp only [List.length_nil, Int.natCast_zero, show ((numV [] : Nat) : Int) = 0 from rfl] at lp
  have hlt : numV (b :: r) < 10 ^ (b :: r).length := numV_lt _ hd
  have hp : (10 : Nat) ^ (b :: r).length ≤ 10000000 := Nat.le_trans (Nat.pow_le_pow_right (by omega) hl) (by decide)
  have w : IntKind.wrap .i64 (0 - ((numV (b :: r) : Nat) : Int)) = -((numV (b :: r) : Nat) : Int) := by rw [wrap64 (by omega) (by omega)]; omega
  simp only [c1, c2, Bool.and_self, if_true, e0, Option.bind_some, n45, Bool.false_eq_true, if_false, c3, c4, hf, lp, w]
theorem prefix_neg (r : List UInt8) (hb : (45 :: r).length ≤ 4611686018427387904) : strings_CutPrefix (45 :: r) [45] = some (r, true) := by
  rw [prefix_eq _ 45 hb]
  rfl
theorem prefix_pos {s : List UInt8} (hb : s.length ≤ 4611686018427387904) (h : ¬ s.head? = some 45) : strings_CutPrefix s [45] = some (s, false) := by
  rw [prefix_eq _ 45 hb, if_neg h]
theorem lval_eq (s : List UInt8) (hb : s.length ≤ 4611686018427387904) : lexer_Value s = some (valS s) := by
  unfold lexer_Value
  by_cases h : s.head? = some 45
  · obtain ⟨r, rfl⟩ : ∃ r, s = 45 :: r := by
      cases s with
      | nil => cases h
      | cons b r => cases h; exact ⟨r, rfl⟩
    have hr : r.length ≤ 4611686018427387904 := by simp at hb; omega
    rw [valS_neg, prefix_neg r hb]
    simp only [lnum_eq r hr, Option.bind_some, Bool.true_and]
    by_cases h0 : num r = 0
    · obtain ⟨q1, q2, q3, q4⟩ := num_zero.1 h0
      obtain ⟨b, t, rfl⟩ := List.exists_cons_of_ne_nil q1
      rw [h0, if_neg (show ¬ (((0 : Int) != 0) = true) by decide), if_neg (show ¬ ((0 : Int) ≠ 0) by decide)]
      by_cases h1 : (b :: t) = [48]
      · rw [if_pos (show ((b :: t) == [48]) = true from beq_iff_eq.2 h1), if_pos h1]
      · rw [if_neg (show ¬ (((b :: t) == [48]) = true) from fun q => h1 (beq_iff_eq.1 q)), if_neg h1, atoi_neg b t q4 q2]
        rfl
    · rw [if_pos (show (num r != 0) = true from bne_iff_ne.2 h0), if_pos h0]
  · rw [valS_pos h, prefix_pos hb h]
    simp only [lnum_eq s hb, Option.bind_some, Bool.false_and]
    by_cases h0 : num s = 0
    · obtain ⟨q1, q2, q3, q4⟩ := num_zero.1 h0
      obtain ⟨b, t, rfl⟩ := List.exists_cons_of_ne_nil q1
      rw [h0, if_neg (show ¬ (((0 : Int) != 0) = true) by decide), if_neg (show ¬ ((0 : Int) ≠ 0) by decide), if_neg (show ¬ (false = true) by decide), atoi_pos b t q4 q2]
      rfl
    · rw [if_pos (show (num s != 0) = true from bne_iff_ne.2 h0), if_pos h0]
theorem worth_loop (s : List UInt8) (k : Int → Option Int) (hl : s.length ≤ 7) (hd : ∀ b ∈ s, isD b = true) : ∀ (r pre : List UInt8), s = pre ++ r →
    ref12_Worth_loop1 s k (r.length + 1) ((numV pre : Nat) : Int) (pre.length : Int) = k ((numV s : Nat) : Int)
  | [], pre, e => by
    unfold ref12_Worth_loop1
    rw [e, ge_end, List.append_nil]
    simp
  | x :: r, pre, e => by
    unfold ref12_Worth_loop1
    have hx : isD x = true := hd x (by rw [e]; simp)
    have hb := isD_iff.1 hx
    have hlen : pre.length + (r.length + 1) = s.length := by rw [e]; simp
    have hlt : numV pre < 10 ^ pre.length := numV_lt pre (fun b hb => hd b (by rw [e]; simp [hb]))
    have hp : (10 : Nat) ^ pre.length ≤ 1000000 := Nat.le_trans (Nat.pow_le_pow_right (by omega) (show pre.length ≤ 6 by omega)) (by decide)
    have w1 : IntKind.wrap .i64 (10 * ((numV pre : Nat) : Int)) = ((numV pre : Nat) : Int) * 10 := by rw [wrap64 (by omega) (by omega)]; omega
    have w2 : IntKind.wrap .i64 (((numV pre : Nat) : Int) * 10 + ((x.toNat - 48 : Nat) : Int)) = ((numV (pre ++ [x]) : Nat) : Int) := by
      rw [wrap64 (by omega) (by omega), numV_snoc]
      omega
    rw [e, lt_mid, if_pos rfl, byteAt_mid, Option.bind_some, digit_step hx, w1, w2, wrap_mid (x := x) (r := r) (by rw [← e]; omega), ← e]
    exact worth_loop s k hl hd r (pre ++ [x]) (by rw [e, mid_cons])
theorem worth_eq (s : List UInt8) (hl : s.length ≤ 7) (hd : ∀ b ∈ s, isD b = true) : ref12_Worth s = some ((numV s : Nat) : Int) := by
  unfold ref12_Worth joinK
  rw [fuel0]
  have lp := worth_loop s (fun i => some i) hl hd s [] rfl
  simpa [numV] using lp
theorem rval_eq (s : List UInt8) (hb : s.length ≤ 4611686018427387904) : ref12_Value s = some (valS s) := by
  have wlt : ∀ {u : List UInt8}, num u = 0 → ((numV u : Nat) : Int) < 10000000 := fun {u} h => by
    obtain ⟨q1, q2, q3, q4⟩ := num_zero.1 h
    have h1 := numV_lt u q2
    have : (10 : Nat) ^ u.length ≤ 10000000 := Nat.le_trans (Nat.pow_le_pow_right (by omega) q4) (by decide)
    omega
  unfold ref12_Value joinK
  cases s with
  | nil => rfl
  | cons b r =>
    have h0 : byteAt (b :: r) 0 = some b := rfl
    have hr : r.length ≤ 4611686018427387904 := by simp at hb; omega
    have c1 : decide ((((b :: r).length : Nat) : Int) > 0) = true := decide_eq_true (by simp only [List.length_cons]; omega)
    simp only [c1, if_true, h0, Option.bind_some, b45, cut_tail]
    by_cases h : b = 45
    · subst h
      rw [valS_neg]
      simp only [BEq.rfl, if_true, show decide ((-1 : Int) < 0) = true from rfl, Bool.true_and, rnum_eq r hr, Option.bind_some]
      by_cases h1 : r = [48]
      · subst h1
        rfl
      · rw [if_neg (show ¬ ((r == [48]) = true) from fun q => h1 (beq_iff_eq.1 q))]
        by_cases h0 : num r = 0
        · obtain ⟨q1, q2, q3, q4⟩ := num_zero.1 h0
          have := wlt h0
          rw [h0, if_neg (show ¬ (((0 : Int) != 0) = true) by decide), if_neg (show ¬ ((0 : Int) ≠ 0) by decide), if_neg h1, worth_eq r q4 q2, Option.bind_some, wrap64 (by omega) (by omega)]
          congr 2
          omega
        · rw [if_pos (show (num r != 0) = true from bne_iff_ne.2 h0), if_pos h0]
    · rw [valS_pos (show ¬ (b :: r).head? = some 45 by simpa using h)]
      rw [if_neg (show ¬ ((b == 45) = true) from fun q => h (beq_iff_eq.1 q))]
      simp only [show decide ((1 : Int) < 0) = false from rfl, Bool.false_and, Bool.false_eq_true, if_false, rnum_eq (b :: r) hb, Option.bind_some]
      by_cases h0 : num (b :: r) = 0
      · obtain ⟨q1, q2, q3, q4⟩ := num_zero.1 h0
        have := wlt h0
        rw [h0, if_neg (show ¬ (((0 : Int) != 0) = true) by decide), if_neg (show ¬ ((0 : Int) ≠ 0) by decide), worth_eq (b :: r) q4 q2, Option.bind_some, wrap64 (by omega) (by omega)]
        congr 2
        omega
      · rw [if_pos (show (num (b :: r) != 0) = true from bne_iff_ne.2 h0), if_pos h0]
theorem valS_dec {n : Nat} (h : n ≤ 9999999) : valS (Lib.decDigits n) = ((n : Int), 0) := by
  have h45 : ¬ (Lib.decDigits n).head? = some 45 := fun q => by
    obtain ⟨b, r, e⟩ := List.exists_cons_of_ne_nil (dec_ne n)
    rw [e] at q
    have := isD_iff.1 (dec_all n b (by rw [e]; simp))
    have e2 : b = 45 := by simpa using q
    rw [e2] at this
    have : (45 : UInt8).toNat = 45 := rfl
    omega
  rw [valS_pos h45, num_dec h, if_neg (show ¬ ((0 : Int) ≠ 0) by decide), dec_val]
end Go.Proofs.YtpocodofhkaddaaGreatDoor.W
