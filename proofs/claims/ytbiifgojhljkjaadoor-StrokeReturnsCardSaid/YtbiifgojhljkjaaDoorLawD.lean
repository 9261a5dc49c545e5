/- The plain laws of strokes, fourth part: Parse; the law StrokeParses. No program in sight. -/
import Derived.Test.YtbiifgojhljkjaaDoorLawC
import Derived.Test.YtbiifgojhljkjaaDoorNum
set_option linter.unusedVariables false
set_option linter.unusedSimpArgs false
set_option maxHeartbeats 2000000
namespace Go.Proofs.YtbiifgojhljkjaaDoor.W
open Go Go.RowKit
/-! ### words that are strokes -/
def readS : List UInt8 → Stroke × Bool
  | [b, c] => if 65 ≤ b.toNat ∧ b.toNat ≤ 70 ∧ (c = 43 ∨ c = 45) then (⟨((b.toNat - 65 : Nat) : Int), c == 43⟩, true) else (⟨0, false⟩, false)
  | _ => (⟨0, false⟩, false)
theorem lread_eq (s : List UInt8) : stroke_read s = some (readS s) := by
  unfold stroke_read
  match s with
  | [] => rfl
  | [b] => rfl
  | [b, c] =>
    have e0 : byteAt [b, c] 0 = some b := rfl
    have e1 : byteAt [b, c] 1 = some c := rfl
    have hl : ((([b, c] : List UInt8).length : Int) != 2) = false := rfl
    have t43 : (43 : UInt8).toNat = 43 := rfl
    have t45 : (45 : UInt8).toNat = 45 := rfl
    have hb := UInt8.toNat_lt b
    rw [hl, e0, e1, readS]
    simp only [Bool.false_eq_true, if_false, Option.bind_some]
    by_cases h1 : 65 ≤ b.toNat
    · have w : IntKind.wrap .i64 (IntKind.wrap .u8 ((b.toNat : Int) - 65)) = ((b.toNat - 65 : Nat) : Int) := by
        rw [wrapU8 (by omega) (by omega), wrap64 (by omega) (by omega)]
        omega
      have d1 : decide ((b.toNat : Int) < 65) = false := decide_eq_false (by omega)
      rw [d1, w, (known_eq _).1]
      simp only [Bool.false_eq_true, if_false, Option.bind_some]
      by_cases h2 : b.toNat ≤ 70
      · have d2 : decide ((0 : Int) ≤ ((b.toNat - 65 : Nat) : Int) ∧ ((b.toNat - 65 : Nat) : Int) < 6) = true := decide_eq_true (by omega)
        rw [d2]
        simp only [Bool.not_true, Bool.false_eq_true, if_false]
        have c43 : ((c.toNat : Int) == 43) = (c == 43) := by
          rw [Bool.eq_iff_iff, beq_iff_eq, beq_iff_eq]
          exact ⟨fun q => UInt8.toNat_inj.1 (by omega), fun q => by rw [q]; rfl⟩
        have c43' : ((c.toNat : Int) != 43) = !(c == 43) := by rw [← c43]; rfl
        have c45' : ((c.toNat : Int) != 45) = !(c == 45) := by
          have : ((c.toNat : Int) == 45) = (c == 45) := by
            rw [Bool.eq_iff_iff, beq_iff_eq, beq_iff_eq]
            exact ⟨fun q => UInt8.toNat_inj.1 (by omega), fun q => by rw [q]; rfl⟩
          rw [← this]; rfl
        rw [c43, c43', c45']
        by_cases h3 : c = 43
        · subst h3
          simp [h1, h2]
        · by_cases h4 : c = 45
          · subst h4
            simp [h1, h2]
          · simp [h3, h4]
      · have d2 : decide ((0 : Int) ≤ ((b.toNat - 65 : Nat) : Int) ∧ ((b.toNat - 65 : Nat) : Int) < 6) = false := decide_eq_false (by omega)
        rw [d2]
        simp [h2]
    · have d1 : decide ((b.toNat : Int) < 65) = true := decide_eq_true (by omega)
      rw [d1]
      simp [h1]
  | b :: c :: d :: r =>
    have hl : ((((b :: c :: d :: r : List UInt8).length : Nat) : Int) != 2) = true := by simp; omega
    rw [hl]
    simp [readS]
theorem readS_wr {y : Stroke} (h0 : 0 ≤ y.actuator) (h1 : y.actuator < 6) : readS (wr y) = (y, true) := by
  obtain ⟨a, ha, hb⟩ := act_fin h0 h1
  obtain ⟨n, o⟩ := y
  have ha' : n = (a.val : Int) := ha
  subst ha'
  unfold wr readS
  rw [show ((⟨(a.val : Int), o⟩ : Stroke).actuator.toNat) = a.val from hb]
  have := a.isLt
  have hu : (UInt8.ofNat (65 + a.val)).toNat = 65 + a.val := by simp; omega
  dsimp only
  rw [hu]
  cases o
  · rw [if_pos ⟨by omega, by omega, .inr rfl⟩]
    simp
  · rw [if_pos ⟨by omega, by omega, .inl rfl⟩]
    simp
theorem readS_some {s : List UInt8} {y : Stroke} (h : readS s = (y, true)) : 0 ≤ y.actuator ∧ y.actuator < 6 ∧ wr y = s := by
  unfold readS at h
  split at h
  · rename_i b c
    split at h
    · rename_i q
      cases h
      refine ⟨by dsimp only; omega, by dsimp only; omega, ?_⟩
      unfold wr
      dsimp only
      rw [Int.toNat_natCast, show 65 + (b.toNat - 65) = b.toNat by omega]
      congr 1
      · simp
      · rcases q.2.2 with rfl | rfl <;> rfl
    · cases h
  · cases h
theorem readS_none {s : List UInt8} : (readS s).2 = false → readS s = (⟨0, false⟩, false) := by
  unfold readS
  split
  · split
    · intro h; cases h
    · intro _; rfl
  · intro _; rfl
def strokes12 : List Stroke := [⟨0, false⟩, ⟨0, true⟩, ⟨1, false⟩, ⟨1, true⟩, ⟨2, false⟩, ⟨2, true⟩, ⟨3, false⟩, ⟨3, true⟩, ⟨4, false⟩, ⟨4, true⟩, ⟨5, false⟩, ⟨5, true⟩]
/-! ### words that are delays -/
def okN : List UInt8 → Bool
  | [] => false
  | b :: r => decide ((b :: r).length ≤ 7) && !(b == 48) && (b :: r).all isD
theorem dropW {p : UInt8 → Bool} : ∀ l : List UInt8, (∀ x ∈ l.dropWhile p, p x = true) → l.dropWhile p = []
  | [], _ => rfl
  | a :: r, h => by
    rw [List.dropWhile_cons] at h ⊢
    cases ha : p a
    · rw [ha, if_neg (by simp)] at h
      have := h a (by simp)
      rw [ha] at this
      cases this
    · rw [ha, if_pos rfl] at h
      rw [if_pos rfl]
      exact dropW r h
theorem dropW_all {p : UInt8 → Bool} : ∀ l : List UInt8, l.dropWhile p = [] ↔ l.all p = true
  | [] => by simp
  | a :: r => by
    rw [List.dropWhile_cons, List.all_cons]
    cases ha : p a
    · simp
    · simp [dropW_all r]
theorem trim_all (l cs : List UInt8) : (Lib.trimS l cs == []) = l.all (cs.contains ·) := by
  unfold Lib.trimS Lib.trimLeftS Lib.trimRightS
  rw [Bool.eq_iff_iff, beq_iff_eq]
  constructor
  · intro h
    have h1 := (dropW_all _).1 h
    have h2 : ∀ x ∈ l.reverse.dropWhile (cs.contains ·), cs.contains x = true := fun x hx => List.all_eq_true.1 h1 x (by simpa using hx)
    have h3 := (dropW_all _).1 (dropW _ h2)
    rw [List.all_eq_true] at h3 ⊢
    exact fun x hx => h3 x (by simpa using hx)
  · intro h
    have : l.reverse.dropWhile (cs.contains ·) = [] := (dropW_all _).2 (by
      rw [List.all_eq_true] at h ⊢
      exact fun x hx => h x (by simpa using hx))
    rw [this]
    rfl
theorem digits_isD (b : UInt8) : ([48, 49, 50, 51, 52, 53, 54, 55, 56, 57] : List UInt8).contains b = isD b := by
  have h : ((List.range 256).all fun n => ([48, 49, 50, 51, 52, 53, 54, 55, 56, 57] : List UInt8).contains n.toUInt8 == isD n.toUInt8) = true := by kernel_rfl
  have := List.all_eq_true.1 h b.toNat (List.mem_range.2 (UInt8.toNat_lt b))
  have e : b.toNat.toUInt8 = b := by simp
  rw [e, beq_iff_eq] at this
  exact this
theorem b48' (b : UInt8) : ((b.toNat : Int) == 48) = (b == 48) := by
  rw [Bool.eq_iff_iff, beq_iff_eq, beq_iff_eq]
  exact ⟨fun q => UInt8.toNat_inj.1 (by have : (48 : UInt8).toNat = 48 := rfl; omega), fun q => by rw [q]; rfl⟩
theorem ldelay_eq (s : List UInt8) (hs : s.length ≤ 1000000) : stroke_delay s = some (if okN s = true then (((numV s : Nat) : Int), true) else (0, false)) := by
  unfold stroke_delay
  cases s with
  | nil => rfl
  | cons b r =>
    have e0 : byteAt (b :: r) 0 = some b := rfl
    have hn : ((b :: r) == []) = false := rfl
    rw [hn, e0, Bool.false_or]
    simp only [Option.bind_some]
    rw [b48', okN]
    by_cases h7 : (b :: r).length ≤ 7
    · have d7 : decide ((((b :: r).length : Nat) : Int) > 7) = false := decide_eq_false (by omega)
      rw [d7, decide_eq_true h7, if_neg (by simp), Option.bind_some]
      cases h48 : (b == 48)
      · have ht : trimS (b :: r) [48, 49, 50, 51, 52, 53, 54, 55, 56, 57] = some (Lib.trimS (b :: r) [48, 49, 50, 51, 52, 53, 54, 55, 56, 57]) := by
          unfold trimS
          rw [if_pos ⟨by omega, by decide, by decide⟩]
        rw [if_neg (by simp), ht]
        simp only [Option.bind_some]
        rw [trim_all]
        have hall : ((b :: r).all (([48, 49, 50, 51, 52, 53, 54, 55, 56, 57] : List UInt8).contains ·)) = (b :: r).all isD := by
          congr 1
          funext c
          exact digits_isD c
        rw [hall]
        cases hd : (b :: r).all isD
        · simp
        · rw [Bool.not_true, if_neg (by simp), atoi_pos b r h7 (List.all_eq_true.1 hd)]
          simp
      · simp
    · have d7 : decide ((((b :: r).length : Nat) : Int) > 7) = true := decide_eq_true (by omega)
      rw [d7, decide_eq_false h7]
      simp
end Go.Proofs.YtbiifgojhljkjaaDoor.W
