/- The plain laws of strokes, first part: splitting texts. No program in sight. -/
import Derived.Test.YtbiifgojhljkjaaDoorBase
set_option linter.unusedVariables false
set_option linter.unusedSimpArgs false
set_option maxHeartbeats 2000000
namespace Go.Proofs.YtbiifgojhljkjaaDoor.W
open Go Go.RowKit
theorem cut_from {T pre r : List UInt8} (e : T = pre ++ r) : cut T (pre.length : Int) (T.length : Int) = some r := by
  rw [e, cut_drop (by simp)]
  simp
theorem cut_nat {s : List UInt8} {i j : Nat} (h : i ≤ j) (hj : j ≤ s.length) : cut s (i : Int) (j : Int) = some ((s.take j).drop i) := by
  unfold cut
  rw [if_pos ⟨by omega, by omega, by omega⟩]
  congr 1
  rw [List.drop_take]
  simp
theorem split_eq (s sep : List UInt8) : splitL s sep = Lib.split s sep := by
  unfold splitL
  exact Lib.splitB_data _ _ _ _
theorem splitS_eq {s sep : List UInt8} (hs : s.length ≤ 1000000) (h : 1 ≤ sep.length) : splitS s sep = some (Lib.split s sep) := by
  unfold splitS
  rw [if_pos ⟨by omega, h⟩, split_eq]
theorem isPrefix_take : ∀ (a b : List UInt8), a.isPrefixOf b = (b.take a.length == a)
  | [], b => by simp
  | x :: a, [] => by simp
  | x :: a, y :: b => by
    rw [List.isPrefixOf, isPrefix_take a b, List.length_cons, List.take_succ_cons]
    rw [Bool.eq_iff_iff, Bool.and_eq_true, beq_iff_eq, beq_iff_eq, beq_iff_eq, List.cons.injEq]
    exact ⟨fun ⟨p, q⟩ => ⟨p.symm, q⟩, fun ⟨p, q⟩ => ⟨p.symm, q⟩⟩
theorem occ_drop (s by_ : List UInt8) (f j : Nat) : Lib.occAt (s.drop f) by_ j = Lib.occAt s by_ (f + j) := by
  unfold Lib.occAt
  rw [List.drop_drop]
theorem occ_cut {s by_ : List UInt8} {i : Nat} (h : i + by_.length ≤ s.length) : cut s (i : Int) ((i + by_.length : Nat) : Int) = some ((s.take (i + by_.length)).drop i) ∧ ((s.take (i + by_.length)).drop i == by_) = Lib.occAt s by_ i := by
  refine ⟨cut_nat (by omega) h, ?_⟩
  unfold Lib.occAt
  rw [isPrefix_take, List.drop_take, Nat.add_sub_cancel_left]
theorem split_hit {s by_ : List UInt8} {j : Nat} (hb : by_ ≠ []) (h : Lib.index s by_ = (j : Int)) : Lib.split s by_ = s.take j :: Lib.split (s.drop (j + by_.length)) by_ := by
  unfold Lib.split
  rw [Lib.count_hit hb h, Nat.add_comm 1, Lib.splitK, if_neg (by rw [beq_iff_eq]; omega)]
  have e : (Lib.index s by_).toNat = j := by omega
  rw [e, Nat.add_zero]
theorem split_miss {s by_ : List UInt8} (h : Lib.index s by_ = -1) : Lib.split s by_ = [s] := by
  unfold Lib.split
  rw [Lib.count_miss h]
  rfl
end Go.Proofs.YtbiifgojhljkjaaDoor.W
