/- The plain laws of numbers: lexer_Number, lexer_Value and the reference's. No program in sight. -/
import Derived.Test.YtbhcojijafbdiaaGreatDoorBase
import Derived.Test.YtbhcojijafbdiaaGreatDoorLibN
set_option linter.unusedVariables false
set_option linter.unusedSimpArgs false
set_option maxHeartbeats 2000000
namespace Go.Proofs.YtbhcojijafbdiaaGreatDoor.W
open Go Go.RowKit
instance (s : List UInt8) : Decidable (noLead s) := by unfold noLead; infer_instance
theorem wrapU8 {x : Int} (h : 0 ≤ x) (k : x ≤ 255) : IntKind.wrap .u8 x = x := by
  simp only [IntKind.wrap, IntKind.signed, IntKind.bits]
  simp
  omega
theorem digit_step {b : UInt8} (h : isD b = true) : IntKind.wrap .i64 (IntKind.wrap .u8 ((b.toNat : Int) - 48)) = ((b.toNat - 48 : Nat) : Int) := by
  have := isD_iff.1 h
  rw [wrapU8 (by omega) (by omega), wrap64 (by omega) (by omega)]
  omega
theorem atoi_loop (s : List UInt8) (k : Int → Option (Int × Unit)) (hl : s.length ≤ 7) (hd : ∀ b ∈ s, isD b = true) : ∀ (r pre : List UInt8), s = pre ++ r →
    internal_strconv_Atoi_loop1 s k (r.length + 1) ((numV pre : Nat) : Int) (pre.length : Int) = k ((numV s : Nat) : Int)
  | [], pre, e => by
    unfold internal_strconv_Atoi_loop1
    have : decide ((pre.length : Int) < ((bytesI s).length : Int)) = false := decide_eq_false (by rw [e]; simp [bytesI])
    rw [if_neg (by rw [this]; decide), e, List.append_nil]
  | x :: r, pre, e => by
    unfold internal_strconv_Atoi_loop1
    have hx : isD x = true := hd x (by rw [e]; simp)
    have hb := isD_iff.1 hx
    have hlen : pre.length + (r.length + 1) = s.length := by rw [e]; simp
    have : decide ((pre.length : Int) < ((bytesI s).length : Int)) = true := decide_eq_true (by simp only [bytesI, List.length_map]; omega)
    have e1 : at? (bytesI s) (pre.length : Int) = some ((x.toNat : Nat) : Int) := by
      have e2 : bytesI s = bytesI pre ++ ((x.toNat : Nat) : Int) :: bytesI r := by rw [e]; simp [bytesI]
      have e3 : (pre.length : Int) = ((bytesI pre).length : Int) := by simp [bytesI]
      rw [e2, e3, at?_mid]
    have hlt : numV pre < 10 ^ pre.length := numV_lt pre (fun b hb => hd b (by rw [e]; simp [hb]))
    have hp : (10 : Nat) ^ pre.length ≤ 1000000 := Nat.le_trans (Nat.pow_le_pow_right (by omega) (show pre.length ≤ 6 by omega)) (by decide)
    have c1 : decide (IntKind.wrap .u8 (((x.toNat : Nat) : Int) - 48) > 9) = false := by
      rw [wrapU8 (by omega) (by omega)]
      exact decide_eq_false (by omega)
    have w1 : IntKind.wrap .i64 (((numV pre : Nat) : Int) * 10) = ((numV pre : Nat) : Int) * 10 := wrap64 (by omega) (by omega)
    have w2 : IntKind.wrap .i64 (((numV pre : Nat) : Int) * 10 + ((x.toNat - 48 : Nat) : Int)) = ((numV (pre ++ [x]) : Nat) : Int) := by
      rw [wrap64 (by omega) (by omega), numV_snoc]
      omega
    have w3 : IntKind.wrap .i64 ((pre.length : Int) + 1) = (((pre ++ [x]).length : Nat) : Int) := by
      rw [wrap64 (by omega) (by omega)]; simp
    rw [if_pos this, e1]
    simp only [Option.bind_some, c1, Bool.false_eq_true, if_false, digit_step hx, w1, w2, w3]
    exact atoi_loop s k hl hd r (pre ++ [x]) (by rw [e, mid_cons])
theorem atoi_pos (b : UInt8) (r : List UInt8) (hl : (b :: r).length ≤ 7) (hd : ∀ c ∈ b :: r, isD c = true) : strconv_Atoi (b :: r) = some (((numV (b :: r) : Nat) : Int), ()) := by
  have hb := isD_iff.1 (hd b (by simp))
  have e0 : byteAt (b :: r) 0 = some b := rfl
  have n45 : ((b.toNat : Int) == 45) = false := by simp; omega
  have n43 : ((b.toNat : Int) == 43) = false := by simp; omega
  have c1 : decide ((0 : Int) < ((b :: r).length : Int)) = true := decide_eq_true (by simp only [List.length_cons]; omega)
  have c2 : decide (((b :: r).length : Int) < 19) = true := decide_eq_true (by simp at hl ⊢; omega)
  have hf : (Int.toNat (((bytesI (b :: r)).length : Int) - 0) + 1) = (b :: r).length + 1 := by simp [bytesI]
  unfold strconv_Atoi internal_strconv_Atoi joinK
  have lp := fun k => atoi_loop (b :: r) k hl hd (b :: r) [] rfl
  simp only [c1, c2, Bool.and_self, if_true, e0, Option.bind_some, n45, n43, Bool.false_eq_true, if_false, hf]
  simp only [List.length_nil, Int.natCast_zero, show ((numV [] : Nat) : Int) = 0 from rfl] at lp
  simp only [lp, Option.bind_some]
end Go.Proofs.YtbhcojijafbdiaaGreatDoor.W
