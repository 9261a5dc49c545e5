/- Plain laws of lists, numbers and texts. No program in sight. -/
import Derived.Test.YtbhcojijafbdiaaGreatDoorExtra
import Derived.Test.YtbhcojijafbdiaaGreatDoorLibN
set_option linter.unusedVariables false
set_option linter.unusedSimpArgs false
set_option maxHeartbeats 2000000
namespace Go.Proofs.YtbhcojijafbdiaaGreatDoor.W
open Go Go.RowKit
theorem wrap64 {x : Int} (h : -9223372036854775808 ≤ x) (k : x ≤ 9223372036854775807) : IntKind.wrap .i64 x = x := by
  unfold IntKind.wrap
  simp [IntKind.bits, IntKind.signed]
  split <;> omega
theorem maxLen_eq : maxLen = 9223372036854775807 := by decide
section
variable {α : Type} {x : α} {pre r l : List α}
theorem at?_mid : at? (pre ++ x :: r) (pre.length : Int) = some x := by
  unfold at?
  rw [if_pos (by omega)]
  simp
theorem lt_mid : decide ((pre.length : Int) < ((pre ++ x :: r).length : Int)) = true := by
  simp only [List.length_append, List.length_cons, decide_eq_true_eq]
  omega
theorem ge_end : decide ((pre.length : Int) < ((pre ++ ([] : List α)).length : Int)) = false := by
  simp
theorem wrap_mid (h : (pre ++ x :: r).length ≤ 4611686018427387904) : IntKind.wrap .i64 ((pre.length : Int) + 1) = ((pre ++ [x]).length : Int) := by
  simp only [List.length_append, List.length_cons, List.length_nil] at h ⊢
  rw [wrap64 (by omega) (by omega)]
  omega
theorem mid_cons : pre ++ x :: r = (pre ++ [x]) ++ r := by simp
theorem fuel0 : Int.toNat ((l.length : Int) - 0) + 1 = l.length + 1 := by simp
theorem appO_ok {b : Nat} {l r : List α} (h : (l.length + r.length) * b ≤ 140737488355328) (h0 : 0 < b) : appO b l r = some (l ++ r) := by
  unfold appO
  have h1 : l.length + r.length ≤ (l.length + r.length) * b := Nat.le_mul_of_pos_right _ h0
  rw [if_pos ⟨h, by rw [maxLen_eq]; omega⟩]
end
theorem byteAt_mid {pre r : List UInt8} {x : UInt8} : byteAt (pre ++ x :: r) (pre.length : Int) = some x := by
  unfold byteAt
  rw [if_pos (by omega)]
  simp
theorem cut_digit : ∀ r : Fin 10, cut [48, 49, 50, 51, 52, 53, 54, 55, 56, 57] (r.val : Int) (IntKind.wrap .i64 ((r.val : Int) + 1)) = some [UInt8.ofNat (48 + r.val)] := by decide +kernel
theorem tmod_nat (n : Nat) : Int.tmod (n : Int) 10 = ((n % 10 : Nat) : Int) := by
  rw [Int.tmod_eq_emod_of_nonneg (by omega)]
  omega
theorem tdiv_nat (n : Nat) : Int.tdiv (n : Int) 10 = ((n / 10 : Nat) : Int) := by
  rw [Int.tdiv_eq_ediv_of_nonneg (by omega)]
  omega
theorem catO_small {s t : List UInt8} (h : s.length + t.length ≤ 1000000000) : catO s t = some (s ++ t) := by
  unfold catO
  rw [if_pos (Nat.le_trans h (by decide))]
theorem at?_last {α : Type} {pre r : List α} (h : pre ≠ []) (hb : pre.length ≤ 4611686018427387904) : at? (pre ++ r) (IntKind.wrap .i64 ((pre.length : Int) - 1)) = pre.getLast? := by
  have hp : 0 < pre.length := List.length_pos_iff.2 h
  rw [wrap64 (by omega) (by omega)]
  unfold at?
  rw [if_pos (by omega), List.getLast?_eq_getElem?]
  have e : ((pre.length : Int) - 1).toNat = pre.length - 1 := by omega
  rw [e, List.getElem?_append_left (by omega)]
theorem cut_drop {s : List UInt8} {i : Nat} (h : i ≤ s.length) : cut s (i : Int) (s.length : Int) = some (s.drop i) := by
  unfold cut
  rw [if_pos ⟨by omega, by omega, by omega⟩, List.take_of_length_le (by simp)]
  simp
end Go.Proofs.YtbhcojijafbdiaaGreatDoor.W
