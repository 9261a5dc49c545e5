/- The plain laws of the journal's logs: Load and Repaired. No program in sight. -/
import Derived.Test.YtpocodofhkaddaaGreatDoorLawS
set_option linter.unusedVariables false
set_option linter.unusedSimpArgs false
set_option maxHeartbeats 2000000
namespace Go.Proofs.YtpocodofhkaddaaGreatDoor.W
open Go Go.RowKit
def lastSep (line : List UInt8) : Int := Lib.lastIndex line [32, 59, 32]
def markOf (h : Int) (s : List UInt8) : Int := s.foldl markS h
theorem markOf_bd {h : Int} {s : List UInt8} (h0 : 0 ≤ h) (h1 : h < 65521) : 0 ≤ markOf h s ∧ markOf h s < 65521 := mark_fold_bd s h h0 h1
theorem lastSep_cases (line : List UInt8) : lastSep line = -1 ∨ ∃ p t : List UInt8, line = p ++ [32, 59, 32] ++ t ∧ lastSep line = (p.length : Int) := by
  unfold lastSep Lib.lastIndex
  by_cases h : ([32, 59, 32] : List UInt8).length ≤ line.length
  · rw [if_pos h]
    have h3 : 3 ≤ line.length := h
    rcases Lib.lastOcc_spec line [32, 59, 32] (line.length - ([32, 59, 32] : List UInt8).length + 1) with ⟨e, _⟩ | ⟨i, hi, e, ho, _⟩
    · exact .inl e
    · right
      have hi3 : i + 3 ≤ line.length := by simp at hi; omega
      rw [Lib.occAt_iff_take line [32, 59, 32] i hi3, beq_iff_eq] at ho
      refine ⟨line.take i, line.drop (i + 3), ?_, by rw [e, List.length_take]; omega⟩
      have h1 : line = line.take i ++ line.drop i := (List.take_append_drop i line).symm
      have h2 : line.drop i = (line.drop i).take 3 ++ line.drop (i + 3) := by
        rw [← List.drop_drop]
        exact (List.take_append_drop 3 (line.drop i)).symm
      have ho' : (line.drop i).take 3 = [32, 59, 32] := ho
      rw [ho'] at h2
      rw [List.append_assoc, ← h2]
      exact h1
  · exact .inl (if_neg h)
def decM (h : Int) : List UInt8 := Lib.decDigits h.toNat
theorem cutAt_found {line rest : List UInt8} (h : (10 : UInt8) ∉ line) (hl : (line ++ 10 :: rest).length < 4294967281) : cutAt (line ++ 10 :: rest) [10] = some (line, rest, true) := by
  unfold cutAt Lib.cut
  rw [if_pos hl, index_cut 10 line rest h, if_pos (by omega)]
  simp
theorem cutAt_none {r : List UInt8} (h : (10 : UInt8) ∉ r) (hl : r.length < 4294967281) : cutAt r [10] = some (r, [], false) := by
  unfold cutAt Lib.cut
  rw [if_pos hl, index_no 10 r h, if_neg (by decide)]
theorem cut_take {s : List UInt8} {i : Nat} (h : i ≤ s.length) : cut s 0 (i : Int) = some (s.take i) := by
  unfold cut
  rw [if_pos ⟨by omega, by omega, by omega⟩]
  simp
theorem cut_drop {s : List UInt8} {i : Nat} (h : i ≤ s.length) : cut s (i : Int) (s.length : Int) = some (s.drop i) := by
  unfold cut
  rw [if_pos ⟨by omega, by omega, by omega⟩, List.take_of_length_le (by simp)]
  simp
end Go.Proofs.YtpocodofhkaddaaGreatDoor.W
