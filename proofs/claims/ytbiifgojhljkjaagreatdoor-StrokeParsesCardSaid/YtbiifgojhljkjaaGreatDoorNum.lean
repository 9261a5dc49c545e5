/- The plain laws of numbers: lexer_Number, lexer_Value and the reference's. No program in sight. -/
import Derived.Test.YtbiifgojhljkjaaGreatDoorBase
import Derived.Test.YtbiifgojhljkjaaGreatDoorLibN
set_option linter.unusedVariables false
set_option linter.unusedSimpArgs false
set_option maxHeartbeats 2000000
namespace Go.Proofs.YtbiifgojhljkjaaGreatDoor.W
open Go Go.RowKit
instance (s : List UInt8) : Decidable (noLead s) := by unfold noLead; infer_instance
/-- the error of a number -/
def num (s : List UInt8) : Int := if s = [] then 3 else if s.all isD = false then 3 else if ¬ noLead s then 3 else if 7 < s.length then 17 else 0
theorem num_zero {s : List UInt8} : num s = 0 ↔ s ≠ [] ∧ (∀ b ∈ s, isD b = true) ∧ noLead s ∧ s.length ≤ 7 := by
  unfold num
  constructor
  · intro h
    split at h
    · cases h
    · rename_i h1
      split at h
      · cases h
      · rename_i h2
        split at h
        · cases h
        · rename_i h3
          split at h
          · cases h
          · rename_i h4
            exact ⟨h1, List.all_eq_true.1 (by simpa using h2), Decidable.not_not.1 h3, by omega⟩
  · rintro ⟨h1, h2, h3, h4⟩
    rw [if_neg h1, if_neg (by rw [List.all_eq_true.2 h2]; simp), if_neg (fun q => q h3), if_neg (by omega)]
theorem num_dec {n : Nat} (h : n ≤ 9999999) : num (Lib.decDigits n) = 0 := num_zero.2 ⟨dec_ne n, dec_all n, dec_lead n, dec_len 6 n (by omega)⟩
theorem wrapU8 {x : Int} (h : 0 ≤ x) (k : x ≤ 255) : IntKind.wrap .u8 x = x := by
  simp only [IntKind.wrap, IntKind.signed, IntKind.bits]
  simp
  omega
theorem digit_step {b : UInt8} (h : isD b = true) : IntKind.wrap .i64 (IntKind.wrap .u8 ((b.toNat : Int) - 48)) = ((b.toNat - 48 : Nat) : Int) := by
  have := isD_iff.1 h
  rw [wrapU8 (by omega) (by omega), wrap64 (by omega) (by omega)]
  omega
theorem takeWhile_lt {p : UInt8 → Bool} : ∀ {s : List UInt8}, s.all p = false → (s.takeWhile p).length < s.length
  | [], h => by simp at h
  | x :: r, h => by
    rw [List.takeWhile_cons]
    cases hx : p x
    · simp
    · rw [List.all_cons, hx, Bool.true_and] at h
      simp only [if_true, List.length_cons]
      have := takeWhile_lt h
      omega
theorem lead_iff (b : UInt8) (r : List UInt8) : noLead (b :: r) ↔ ¬ (b = 48 ∧ r ≠ []) := by
  unfold noLead
  constructor
  · rintro (h | h) ⟨h1, h2⟩
    · cases r with
      | nil => exact h2 rfl
      | cons _ _ => simp at h
    · exact h (by rw [h1]; rfl)
  · intro h
    by_cases h2 : r = []
    · left; rw [h2]; simp
    · right
      intro h1
      exact h ⟨by simpa using h1, h2⟩
theorem b48 (b : UInt8) : ((b.toNat : Int) == 48) = (b == 48) := by
  rw [Bool.eq_iff_iff, beq_iff_eq, beq_iff_eq]
  constructor
  · intro h
    exact UInt8.toNat_inj.1 (by have : (48 : UInt8).toNat = 48 := rfl; omega)
  · intro h; rw [h]; rfl
theorem b45 (b : UInt8) : ((b.toNat : Int) == 45) = (b == 45) := by
  rw [Bool.eq_iff_iff, beq_iff_eq, beq_iff_eq]
  constructor
  · intro h
    exact UInt8.toNat_inj.1 (by have : (45 : UInt8).toNat = 45 := rfl; omega)
  · intro h; rw [h]; rfl
theorem cut_tail (b : UInt8) (r : List UInt8) : cut (b :: r) 1 (((b :: r).length : Nat) : Int) = some r := by
  unfold cut
  rw [if_pos ⟨by omega, by simp only [List.length_cons]; omega, by omega⟩]
  simp
/-- the value of a number with its sign, or an error -/
def valS (s : List UInt8) : Int × Int :=
  if s.head? = some 45 then (if num s.tail ≠ 0 then (0, num s.tail) else if s.tail = [48] then (0, 3) else (-((numV s.tail : Nat) : Int), 0))
  else if num s ≠ 0 then (0, num s) else (((numV s : Nat) : Int), 0)
theorem valS_neg (r : List UInt8) : valS (45 :: r) = if num r ≠ 0 then (0, num r) else if r = [48] then (0, 3) else (-((numV r : Nat) : Int), 0) := if_pos rfl
theorem valS_pos {s : List UInt8} (h : ¬ s.head? = some 45) : valS s = if num s ≠ 0 then (0, num s) else (((numV s : Nat) : Int), 0) := if_neg h
theorem atoi_loop (s : List UInt8) (k : Int → Option (Int × Unit)) (hl : s.length ≤ 7) (hd : ∀ b ∈ s, isD b = true) : ∀ (r pre : List UInt8), s = pre ++ r →
    internal_strconv_Atoi_loop1 s k (r.length + 1) ((numV pre : Nat) : Int) (pre.length : Int) = k ((numV s : Nat) : Int)
  | [], pre, e => by
    unfold internal_strconv_Atoi_loop1
    have : decide ((pre.length : Int) < ((bytesI s).length : Int)) = false := decide_eq_false (by rw [e]; simp [bytesI])
    rw [if_neg (by rw [this]; decide), e, List.append_nil]
  | x :: r, pre, e => by
    unfold internal_strconv_Atoi_loop1
    have hx : isD x = true := hd x (by rw [e]; simp)
    have hb := isD_iff.1 hx
    have hlen : pre.length + (r.length + 1) = s.length := by rw [e]; simp
    have : decide ((pre.length : Int) < ((bytesI s).length : Int)) = true := decide_eq_true (by simp only [bytesI, List.length_map]; omega)
    have e1 : at? (bytesI s) (pre.length : Int) = some ((x.toNat : Nat) : Int) := by
      have e2 : bytesI s = bytesI pre ++ ((x.toNat : Nat) : Int) :: bytesI r := by rw [e]; simp [bytesI]
      have e3 : (pre.length : Int) = ((bytesI pre).length : Int) := by simp [bytesI]
      rw [e2, e3, at?_mid]
    have hlt : numV pre < 10 ^ pre.length := numV_lt pre (fun b hb => hd b (by rw [e]; simp [hb]))
    have hp : (10 : Nat) ^ pre.length ≤ 1000000 := Nat.le_trans (Nat.pow_le_pow_right (by omega) (show pre.length ≤ 6 by omega)) (by decide)
    have c1 : decide (IntKind.wrap .u8 (((x.toNat : Nat) : Int) - 48) > 9) = false := by
      rw [wrapU8 (by omega) (by omega)]
      exact decide_eq_false (by omega)
    have w1 : IntKind.wrap .i64 (((numV pre : Nat) : Int) * 10) = ((numV pre : Nat) : Int) * 10 := wrap64 (by omega) (by omega)
    have w2 : IntKind.wrap .i64 (((numV pre : Nat) : Int) * 10 + ((x.toNat - 48 : Nat) : Int)) = ((numV (pre ++ [x]) : Nat) : Int) := by
      rw [wrap64 (by omega) (by omega), numV_snoc]
      omega
    have w3 : IntKind.wrap .i64 ((pre.length : Int) + 1) = (((pre ++ [x]).length : Nat) : Int) := by
      rw [wrap64 (by omega) (by omega)]; simp
    rw [if_pos this, e1]
    simp only [Option.bind_some, c1, Bool.false_eq_true, if_false, digit_step hx, w1, w2, w3]
    exact atoi_loop s k hl hd r (pre ++ [x]) (by rw [e, mid_cons])
theorem atoi_pos (b : UInt8) (r : List UInt8) (hl : (b :: r).length ≤ 7) (hd : ∀ c ∈ b :: r, isD c = true) : strconv_Atoi (b :: r) = some (((numV (b :: r) : Nat) : Int), ()) := by
  have hb := isD_iff.1 (hd b (by simp))
  have e0 : byteAt (b :: r) 0 = some b := rfl
  have n45 : ((b.toNat : Int) == 45) = false := by simp; omega
  have n43 : ((b.toNat : Int) == 43) = false := by simp; omega
  have c1 : decide ((0 : Int) < ((b :: r).length : Int)) = true := decide_eq_true (by simp only [List.length_cons]; omega)
  have c2 : decide (((b :: r).length : Int) < 19) = true := decide_eq_true (by simp at hl ⊢; omega)
  have hf : (Int.toNat (((bytesI (b :: r)).length : Int) - 0) + 1) = (b :: r).length + 1 := by simp [bytesI]
  unfold strconv_Atoi internal_strconv_Atoi joinK
  have lp := fun k => atoi_loop (b :: r) k hl hd (b :: r) [] rfl
  simp only [c1, c2, Bool.and_self, if_true, e0, Option.bind_some, n45, n43, Bool.false_eq_true, if_false, hf]
  simp only [List.length_nil, Int.natCast_zero, show ((numV [] : Nat) : Int) = 0 from rfl] at lp
  simp only [lp, Option.bind_some]
theorem atoi_neg (b : UInt8) (r : List UInt8) (hl : (b :: r).length ≤ 7) (hd : ∀ c ∈ b :: r, isD c = true) : strconv_Atoi (45 :: b :: r) = some (-((numV (b :: r) : Nat) : Int), ()) := by
  have e0 : byteAt (45 :: b :: r) 0 = some 45 := rfl
  have n45 : (((45 : UInt8).toNat : Int) == 45) = true := rfl
  have c1 : decide ((0 : Int) < ((45 :: b :: r).length : Int)) = true := decide_eq_true (by simp only [List.length_cons]; omega)
  have c2 : decide (((45 :: b :: r).length : Int) < 19) = true := decide_eq_true (by simp at hl ⊢; omega)
  have hf : (Int.toNat (((bytesI (b :: r)).length : Int) - 0) + 1) = (b :: r).length + 1 := by simp [bytesI]
  have c3 : cut (45 :: b :: r) 1 ((45 :: b :: r).length : Int) = some (b :: r) := cut_tail 45 (b :: r)
  have c4 : decide ((((b :: r).length : Nat) : Int) < 1) = false := decide_eq_false (by simp only [List.length_cons]; omega)
  unfold strconv_Atoi internal_strconv_Atoi joinK
  have lp := fun k => atoi_loop (b :: r) k hl hd (b :: r) [] rfl
  simp only [List.length_nil, Int.natCast_zero, show ((numV [] : Nat) : Int) = 0 from rfl] at lp
  have hlt : numV (b :: r) < 10 ^ (b :: r).length := numV_lt _ hd
  have hp : (10 : Nat) ^ (b :: r).length ≤ 10000000 := Nat.le_trans (Nat.pow_le_pow_right (by omega) hl) (by decide)
  have w : IntKind.wrap .i64 (0 - ((numV (b :: r) : Nat) : Int)) = -((numV (b :: r) : Nat) : Int) := by rw [wrap64 (by omega) (by omega)]; omega
  simp only [c1, c2, Bool.and_self, if_true, e0, Option.bind_some, n45, Bool.false_eq_true, if_false, c3, c4, hf, lp, w]
theorem valS_dec {n : Nat} (h : n ≤ 9999999) : valS (Lib.decDigits n) = ((n : Int), 0) := by
  have h45 : ¬ (Lib.decDigits n).head? = some 45 := fun q => by
    obtain ⟨b, r, e⟩ := List.exists_cons_of_ne_nil (dec_ne n)
    rw [e] at q
    have := isD_iff.1 (dec_all n b (by rw [e]; simp))
    have e2 : b = 45 := by simpa using q
    rw [e2] at this
    have : (45 : UInt8).toNat = 45 := rfl
    omega
  rw [valS_pos h45, num_dec h, if_neg (show ¬ ((0 : Int) ≠ 0) by decide), dec_val]
end Go.Proofs.YtbiifgojhljkjaaGreatDoor.W
