/- Plain laws of lists, numbers and texts. No program in sight. -/
import Derived.Test.YtcgmhlakihjbkaaGreatDoorExtra
import Derived.Test.YtcgmhlakihjbkaaGreatDoorLibN
set_option linter.unusedVariables false
set_option linter.unusedSimpArgs false
set_option maxHeartbeats 2000000
namespace Go.Proofs.YtcgmhlakihjbkaaGreatDoor.W
open Go Go.RowKit
theorem wrap64 {x : Int} (h : -9223372036854775808 ≤ x) (k : x ≤ 9223372036854775807) : IntKind.wrap .i64 x = x := by
  unfold IntKind.wrap
  simp [IntKind.bits, IntKind.signed]
  split <;> omega
theorem maxLen_eq : maxLen = 9223372036854775807 := by decide
section
variable {α : Type} {x : α} {pre r l : List α}
theorem at?_mid : at? (pre ++ x :: r) (pre.length : Int) = some x := by
  unfold at?
  rw [if_pos (by omega)]
  simp
theorem lt_mid : decide ((pre.length : Int) < ((pre ++ x :: r).length : Int)) = true := by
  simp only [List.length_append, List.length_cons, decide_eq_true_eq]
  omega
theorem ge_end : decide ((pre.length : Int) < ((pre ++ ([] : List α)).length : Int)) = false := by
  simp
theorem wrap_mid (h : (pre ++ x :: r).length ≤ 4611686018427387904) : IntKind.wrap .i64 ((pre.length : Int) + 1) = ((pre ++ [x]).length : Int) := by
  simp only [List.length_append, List.length_cons, List.length_nil] at h ⊢
  rw [wrap64 (by omega) (by omega)]
  omega
theorem mid_cons : pre ++ x :: r = (pre ++ [x]) ++ r := by simp
theorem fuel0 : Int.toNat ((l.length : Int) - 0) + 1 = l.length + 1 := by simp
theorem appO_ok {b : Nat} {l r : List α} (h : (l.length + r.length) * b ≤ 140737488355328) (h0 : 0 < b) : appO b l r = some (l ++ r) := by
  unfold appO
  have h1 : l.length + r.length ≤ (l.length + r.length) * b := Nat.le_mul_of_pos_right _ h0
  rw [if_pos ⟨h, by rw [maxLen_eq]; omega⟩]
end
theorem byteAt_mid {pre r : List UInt8} {x : UInt8} : byteAt (pre ++ x :: r) (pre.length : Int) = some x := by
  unfold byteAt
  rw [if_pos (by omega)]
  simp
theorem at?_last {α : Type} {pre r : List α} (h : pre ≠ []) (hb : pre.length ≤ 4611686018427387904) : at? (pre ++ r) (IntKind.wrap .i64 ((pre.length : Int) - 1)) = pre.getLast? := by
  have hp : 0 < pre.length := List.length_pos_iff.2 h
  rw [wrap64 (by omega) (by omega)]
  unfold at?
  rw [if_pos (by omega), List.getLast?_eq_getElem?]
  have e : ((pre.length : Int) - 1).toNat = pre.length - 1 := by omega
  rw [e, List.getElem?_append_left (by omega)]
end Go.Proofs.YtcgmhlakihjbkaaGreatDoor.W
set_option linter.unusedVariables false
set_option linter.unusedSimpArgs false
set_option maxHeartbeats 2000000
namespace Go.Proofs.YtcgmhlakihjbkaaGreatDoor.W
open Go Go.RowKit
end Go.Proofs.YtcgmhlakihjbkaaGreatDoor.W
set_option linter.unusedVariables false
set_option linter.unusedSimpArgs false
set_option maxHeartbeats 2000000
namespace Go.Proofs.YtcgmhlakihjbkaaGreatDoor.W
open Go Go.RowKit
/-! ### checks -/
def chkS (wait : Int) (last : Int) : List Stroke → Int
  | [] => if wait < 0 ∨ wait > 1000000 then 2 else 0
  | y :: r => if ¬ (0 ≤ y.actuator ∧ y.actuator < 6) then 2 else if y.actuator = last then 7 else if y.actuator < last then 9 else chkS wait y.actuator r
def chk (x : Step) : Int := if x.strokes.length = 0 then 13 else if 6 < x.strokes.length then 5 else chkS x.wait (-1) x.strokes
theorem known_eq (n : Int) : stroke_known n = some (decide (0 ≤ n ∧ n < 6)) ∧ ref13_Actuator n = some (decide (0 ≤ n ∧ n < 6)) := by
  unfold stroke_known ref13_Actuator
  have : (decide (n ≥ 0) && decide (n < 6)) = decide (0 ≤ n ∧ n < 6) := by
    rw [Bool.eq_iff_iff, Bool.and_eq_true, decide_eq_true_eq, decide_eq_true_eq, decide_eq_true_eq]
  rw [this]
  exact ⟨rfl, rfl⟩
theorem lchk_loop (x : Step) (hl : x.strokes.length ≤ 100) : ∀ (r pre : List Stroke) (last : Int), x.strokes = pre ++ r → stroke_CheckStep_loop1 x (if ((decide (x.wait < 0)) || (decide (x.wait > 1000000))) = true then some 2 else some 0) (r.length + 1) last (pre.length : Int) = some (chkS x.wait last r)
  | [], pre, last, e => by
    unfold stroke_CheckStep_loop1
    rw [e, ge_end, chkS]
    by_cases h : x.wait < 0 ∨ x.wait > 1000000
    · rw [if_pos h]; simp [h]
    · rw [if_neg h]; simp [h]
  | y :: r, pre, last, e => by
    have ih := lchk_loop x hl r (pre ++ [y]) y.actuator (by rw [e, mid_cons])
    unfold stroke_CheckStep_loop1
    rw [e, lt_mid, if_pos rfl, at?_mid, Option.bind_some, (known_eq _).1, Option.bind_some, wrap_mid (x := y) (r := r) (by rw [← e]; omega), chkS]
    rw [List.length_cons, ih]
    simp only [Bool.not_eq_true', decide_eq_false_iff_not, beq_iff_eq, decide_eq_true_eq]
    repeat' split
    all_goals first | rfl | (exfalso; omega)
theorem lchk_eq (x : Step) : stroke_CheckStep x = some (chk x) := by
  unfold stroke_CheckStep chk
  by_cases h0 : x.strokes.length = 0
  · rw [if_pos (by simp [h0]), if_pos h0]
  · rw [if_neg (by simpa using h0), if_neg h0]
    by_cases h6 : 6 < x.strokes.length
    · rw [if_pos (by rw [decide_eq_true_eq]; omega), if_pos h6]
    · rw [if_neg (by rw [decide_eq_true_eq]; omega), if_neg h6]
      unfold joinK
      dsimp only
      rw [fuel0]
      exact lchk_loop x (by omega) x.strokes [] (-1) rfl
def prevA (pre : List Stroke) : Int := match pre.getLast? with | none => -1 | some z => z.actuator
theorem prevA_nil : prevA [] = -1 := rfl
theorem prevA_snoc (pre : List Stroke) (y : Stroke) : prevA (pre ++ [y]) = y.actuator := by unfold prevA; simp
theorem prevA_of {pre : List Stroke} {z : Stroke} (h : pre.getLast? = some z) : prevA pre = z.actuator := by unfold prevA; rw [h]
theorem rchk_loop (x : Step) (hl : x.strokes.length ≤ 100) : ∀ (r pre : List Stroke), x.strokes = pre ++ r → (∀ z ∈ pre, 0 ≤ z.actuator) → ref13_CheckStep_loop1 x ((ref03_Time x.wait).bind fun r2 => if (!r2) = true then some 2 else some 0) (r.length + 1) (pre.length : Int) = some (chkS x.wait (prevA pre) r)
  | [], pre, e, _ => by
    unfold ref13_CheckStep_loop1 ref03_Time
    rw [e, ge_end, chkS]
    by_cases h : x.wait < 0 ∨ x.wait > 1000000
    · rw [if_pos h]
      have : ¬ (0 ≤ x.wait ∧ x.wait ≤ 1000000) := by omega
      simp
      omega
    · rw [if_neg h]
      simp
      omega
  | y :: r, pre, e, hp => by
    have hlen : x.strokes.length = pre.length + (r.length + 1) := by rw [e]; simp
    have hat : at? x.strokes (pre.length : Int) = some y := by rw [e]; exact at?_mid
    unfold ref13_CheckStep_loop1
    rw [if_pos (by rw [decide_eq_true_eq]; omega), hat]
    simp only [Option.bind_some]
    rw [(known_eq _).2, Option.bind_some, chkS, wrap64 (x := (pre.length : Int) + 1) (by omega) (by omega)]
    by_cases h1 : 0 ≤ y.actuator ∧ y.actuator < 6
    · have ih := rchk_loop x hl r (pre ++ [y]) (by rw [e, mid_cons]) (fun z hz => by
        rcases List.mem_append.1 hz with hz | hz
        · exact hp z hz
        · rw [List.mem_singleton.1 hz]; exact h1.1)
      have e2 : (((pre ++ [y]).length : Nat) : Int) = (pre.length : Int) + 1 := by simp
      rw [e2, prevA_snoc] at ih
      rw [List.length_cons, ih]
      by_cases hpe : pre = []
      · subst hpe
        have c0 : decide ((([] : List Stroke).length : Int) > 0) = false := by simp
        rw [c0, prevA_nil]
        simp only [Bool.false_eq_true, if_false, Option.bind_some, Bool.not_eq_true', decide_eq_false_iff_not]
        have hneg : ¬ y.actuator = -1 ∧ ¬ y.actuator < -1 := by omega
        rw [if_neg hneg.1, if_neg hneg.2]
        repeat' split
        all_goals first | rfl | (exfalso; omega)
      · obtain ⟨z, hz⟩ : ∃ z, pre.getLast? = some z := ⟨pre.getLast hpe, List.getLast?_eq_some_getLast hpe⟩
        have hpos : 0 < pre.length := List.length_pos_iff.2 hpe
        have hprev : at? x.strokes (IntKind.wrap .i64 ((pre.length : Int) - 1)) = some z := by rw [e, at?_last hpe (by omega), hz]
        have c1 : decide ((pre.length : Int) > 0) = true := decide_eq_true (by omega)
        rw [c1, hprev, prevA_of hz]
        simp only [if_true, Option.bind_some, Bool.not_eq_true', decide_eq_false_iff_not, beq_iff_eq, decide_eq_true_eq]
        repeat' split
        all_goals first | rfl | (exfalso; omega)
    · rw [decide_eq_false h1]
      simp [h1]
theorem rchk_eq (x : Step) : ref13_CheckStep x = some (chk x) := by
  unfold ref13_CheckStep chk
  by_cases h0 : x.strokes.length = 0
  · rw [if_pos (by simp [h0]), if_pos h0]
  · rw [if_neg (by simpa using h0), if_neg h0]
    by_cases h6 : 6 < x.strokes.length
    · rw [if_pos (by rw [decide_eq_true_eq]; omega), if_pos h6]
    · rw [if_neg (by rw [decide_eq_true_eq]; omega), if_neg h6]
      unfold joinK
      dsimp only
      rw [fuel0]
      exact rchk_loop x (by omega) x.strokes [] rfl (by simp)
/-- right strokes behind one -/
def Asc (last : Int) : List Stroke → Prop
  | [] => True
  | y :: r => 0 ≤ y.actuator ∧ y.actuator < 6 ∧ last < y.actuator ∧ Asc y.actuator r
structure GoodS (x : Step) : Prop where
  ne : x.strokes ≠ []
  few : x.strokes.length ≤ 6
  asc : Asc (-1) x.strokes
  w0 : 0 ≤ x.wait
  w1 : x.wait ≤ 1000000
theorem chkS_zero {w : Int} : ∀ {r : List Stroke} {last : Int}, chkS w last r = 0 ↔ Asc last r ∧ 0 ≤ w ∧ w ≤ 1000000
  | [], last => by
    rw [chkS, Asc]
    split
    · simp; omega
    · simp; omega
  | y :: r, last => by
    rw [chkS, Asc]
    split
    · rename_i h; simp; omega
    · rename_i h1
      split
      · rename_i h; simp; omega
      · rename_i h2
        split
        · rename_i h; simp; omega
        · rename_i h3
          rw [chkS_zero]
          have : 0 ≤ y.actuator ∧ y.actuator < 6 := Decidable.not_not.1 h1
          constructor
          · rintro ⟨a, b⟩; exact ⟨⟨this.1, this.2, by omega, a⟩, b⟩
          · rintro ⟨⟨_, _, _, a⟩, b⟩; exact ⟨a, b⟩
theorem chk_zero {x : Step} : chk x = 0 ↔ GoodS x := by
  unfold chk
  constructor
  · intro h
    split at h
    · cases h
    · rename_i h0
      split at h
      · cases h
      · rename_i h6
        obtain ⟨a, b, c⟩ := chkS_zero.1 h
        exact ⟨fun q => h0 (by rw [q]; rfl), by omega, a, b, c⟩
  · rintro ⟨a, b, c, d, e⟩
    have : 0 < x.strokes.length := List.length_pos_iff.2 a
    rw [if_neg (by omega), if_neg (by omega)]
    exact chkS_zero.2 ⟨c, d, e⟩
theorem asc_mem : ∀ {r : List Stroke} {last : Int}, Asc last r → ∀ y ∈ r, 0 ≤ y.actuator ∧ y.actuator < 6 ∧ last < y.actuator
  | z :: r, last, h, y, hy => by
    rcases List.mem_cons.1 hy with rfl | hy
    · exact ⟨h.1, h.2.1, h.2.2.1⟩
    · obtain ⟨a, b, c⟩ := asc_mem h.2.2.2 y hy
      have := h.2.2.1
      exact ⟨a, b, by omega⟩
/-! ### texts of strokes -/
def wr (y : Stroke) : List UInt8 := [UInt8.ofNat (65 + y.actuator.toNat), if y.out then 43 else 45]
def decW (n : Int) : List UInt8 := Lib.decDigits n.toNat
def words (x : Step) : List (List UInt8) := x.strokes.map wr ++ (if x.wait > 0 then [decW x.wait] else [])
end Go.Proofs.YtcgmhlakihjbkaaGreatDoor.W
set_option linter.unusedVariables false
set_option linter.unusedSimpArgs false
set_option maxHeartbeats 2000000
namespace Go.Proofs.YtcgmhlakihjbkaaGreatDoor.W
open Go Go.RowKit
/-! ### Format -/
/-! ### the laws -/
/-! ### Has, Same -/
def wayS (n : Int) : List Stroke → Int
  | [] => 0
  | y :: r => if y.actuator = n then (if y.out = true then 1 else -1) else wayS n r
theorem rway_loop (x : Step) (n : Int) (hl : x.strokes.length ≤ 100) : ∀ (r pre : List Stroke), x.strokes = pre ++ r → ref13_Way_loop1 x n (some 0) (r.length + 1) (pre.length : Int) = some (wayS n r)
  | [], pre, e => by
    unfold ref13_Way_loop1
    rw [e, ge_end]
    simp [wayS]
  | y :: r, pre, e => by
    have ih := rway_loop x n hl r (pre ++ [y]) (by rw [e, mid_cons])
    have hat : at? x.strokes (pre.length : Int) = some y := by rw [e]; exact at?_mid
    have hlen : x.strokes.length = pre.length + (r.length + 1) := by rw [e]; simp
    unfold ref13_Way_loop1
    rw [if_pos (by rw [decide_eq_true_eq]; omega), hat]
    simp only [Option.bind_some]
    rw [wrap64 (x := (pre.length : Int) + 1) (by omega) (by omega), wayS]
    by_cases h : y.actuator = n
    · rw [if_pos (by simpa using h), if_pos h]
      cases y.out <;> rfl
    · rw [if_neg (by simpa using h), if_neg h]
      have e2 : (((pre ++ [y]).length : Nat) : Int) = (pre.length : Int) + 1 := by simp
      rw [e2] at ih
      exact ih
theorem rway_eq (x : Step) (n : Int) (hf : x.strokes.length ≤ 100) : ref13_Way x n = some (wayS n x.strokes) := by
  unfold ref13_Way joinK
  dsimp only
  rw [fuel0]
  exact rway_loop x n hf x.strokes [] rfl
end Go.Proofs.YtcgmhlakihjbkaaGreatDoor.W
