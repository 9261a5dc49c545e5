/- The plain laws of strokes, fourth part: Parse; the law StrokeParses. No program in sight. -/
import Derived.Test.YtbhcojijafbdiaaGreatDoorLawC
import Derived.Test.YtbhcojijafbdiaaGreatDoorNum
set_option linter.unusedVariables false
set_option linter.unusedSimpArgs false
set_option maxHeartbeats 2000000
namespace Go.Proofs.YtbhcojijafbdiaaGreatDoor.W
open Go Go.RowKit
/-! ### words that are strokes -/
def readS : List UInt8 → Stroke × Bool
  | [b, c] => if 65 ≤ b.toNat ∧ b.toNat ≤ 70 ∧ (c = 43 ∨ c = 45) then (⟨((b.toNat - 65 : Nat) : Int), c == 43⟩, true) else (⟨0, false⟩, false)
  | _ => (⟨0, false⟩, false)
theorem lread_eq (s : List UInt8) : stroke_read s = some (readS s) := by
  unfold stroke_read
  match s with
  | [] => rfl
  | [b] => rfl
  | [b, c] =>
    have e0 : byteAt [b, c] 0 = some b := rfl
    have e1 : byteAt [b, c] 1 = some c := rfl
    have hl : ((([b, c] : List UInt8).length : Int) != 2) = false := rfl
    have t43 : (43 : UInt8).toNat = 43 := rfl
    have t45 : (45 : UInt8).toNat = 45 := rfl
    have hb := UInt8.toNat_lt b
    rw [hl, e0, e1, readS]
    simp only [Bool.false_eq_true, if_false, Option.bind_some]
    by_cases h1 : 65 ≤ b.toNat
    · have w : IntKind.wrap .i64 (IntKind.wrap .u8 ((b.toNat : Int) - 65)) = ((b.toNat - 65 : Nat) : Int) := by
        rw [wrapU8 (by omega) (by omega), wrap64 (by omega) (by omega)]
        omega
      have d1 : decide ((b.toNat : Int) < 65) = false := decide_eq_false (by omega)
      rw [d1, w, (known_eq _).1]
      simp only [Bool.false_eq_true, if_false, Option.bind_some]
      by_cases h2 : b.toNat ≤ 70
      · have d2 : decide ((0 : Int) ≤ ((b.toNat - 65 : Nat) : Int) ∧ ((b.toNat - 65 : Nat) : Int) < 6) = true := decide_eq_true (by omega)
        rw [d2]
        simp only [Bool.not_true, Bool.false_eq_true, if_false]
        have c43 : ((c.toNat : Int) == 43) = (c == 43) := by
          rw [Bool.eq_iff_iff, beq_iff_eq, beq_iff_eq]
          exact ⟨fun q => UInt8.toNat_inj.1 (by omega), fun q => by rw [q]; rfl⟩
        have c43' : ((c.toNat : Int) != 43) = !(c == 43) := by rw [← c43]; rfl
        have c45' : ((c.toNat : Int) != 45) = !(c == 45) := by
          have : ((c.toNat : Int) == 45) = (c == 45) := by
            rw [Bool.eq_iff_iff, beq_iff_eq, beq_iff_eq]
            exact ⟨fun q => UInt8.toNat_inj.1 (by omega), fun q => by rw [q]; rfl⟩
          rw [← this]; rfl
        rw [c43, c43', c45']
        by_cases h3 : c = 43
        · subst h3
          simp [h1, h2]
        · by_cases h4 : c = 45
          · subst h4
            simp [h1, h2]
          · simp [h3, h4]
      · have d2 : decide ((0 : Int) ≤ ((b.toNat - 65 : Nat) : Int) ∧ ((b.toNat - 65 : Nat) : Int) < 6) = false := decide_eq_false (by omega)
        rw [d2]
        simp [h2]
    · have d1 : decide ((b.toNat : Int) < 65) = true := decide_eq_true (by omega)
      rw [d1]
      simp [h1]
  | b :: c :: d :: r =>
    have hl : ((((b :: c :: d :: r : List UInt8).length : Nat) : Int) != 2) = true := by simp; omega
    rw [hl]
    simp [readS]
theorem readS_wr {y : Stroke} (h0 : 0 ≤ y.actuator) (h1 : y.actuator < 6) : readS (wr y) = (y, true) := by
  obtain ⟨a, ha, hb⟩ := act_fin h0 h1
  obtain ⟨n, o⟩ := y
  have ha' : n = (a.val : Int) := ha
  subst ha'
  unfold wr readS
  rw [show ((⟨(a.val : Int), o⟩ : Stroke).actuator.toNat) = a.val from hb]
  have := a.isLt
  have hu : (UInt8.ofNat (65 + a.val)).toNat = 65 + a.val := by simp; omega
  dsimp only
  rw [hu]
  cases o
  · rw [if_pos ⟨by omega, by omega, .inr rfl⟩]
    simp
  · rw [if_pos ⟨by omega, by omega, .inl rfl⟩]
    simp
theorem readS_some {s : List UInt8} {y : Stroke} (h : readS s = (y, true)) : 0 ≤ y.actuator ∧ y.actuator < 6 ∧ wr y = s := by
  unfold readS at h
  split at h
  · rename_i b c
    split at h
    · rename_i q
      cases h
      refine ⟨by dsimp only; omega, by dsimp only; omega, ?_⟩
      unfold wr
      dsimp only
      rw [Int.toNat_natCast, show 65 + (b.toNat - 65) = b.toNat by omega]
      congr 1
      · simp
      · rcases q.2.2 with rfl | rfl <;> rfl
    · cases h
  · cases h
theorem readS_none {s : List UInt8} : (readS s).2 = false → readS s = (⟨0, false⟩, false) := by
  unfold readS
  split
  · split
    · intro h; cases h
    · intro _; rfl
  · intro _; rfl
theorem rread_loop2 (s : List UInt8) (i : Int) (h0 : 0 ≤ i) (h1 : i < 6) (k : Option (Stroke × Bool)) : ref13_read_loop2 s i k 3 0 = if wr ⟨i, false⟩ == s then some (⟨i, false⟩, true) else if wr ⟨i, true⟩ == s then some (⟨i, true⟩, true) else k := by
  have e0 := rwr_eq (y := ⟨i, false⟩) h0 h1
  have e1 := rwr_eq (y := ⟨i, true⟩) h0 h1
  have w0 : IntKind.wrap .i64 (1 : Int) = 1 := by kernel_rfl
  have w1 : IntKind.wrap .i64 (2 : Int) = 2 := by kernel_rfl
  simp [ref13_read_loop2, at?, e0, e1, w0, w1]
theorem rread_eq (s : List UInt8) : ref13_read s = some (readS s) := by
  have w0 : IntKind.wrap .i64 ((0 : Int) + 1) = 1 := by kernel_rfl
  have w1 : IntKind.wrap .i64 ((1 : Int) + 1) = 2 := by kernel_rfl
  have w2 : IntKind.wrap .i64 ((2 : Int) + 1) = 3 := by kernel_rfl
  have w3 : IntKind.wrap .i64 ((3 : Int) + 1) = 4 := by kernel_rfl
  have w4 : IntKind.wrap .i64 ((4 : Int) + 1) = 5 := by kernel_rfl
  have w5 : IntKind.wrap .i64 ((5 : Int) + 1) = 6 := by kernel_rfl
  have f3 : (Int.toNat ((([false, true] : List Bool).length : Int) - 0) + 1) = 3 := rfl
  have f7 : (Int.toNat ((6 : Int) - 0) + 1) = 7 := rfl
  have d : ∀ i : Int, i < 6 → decide (i < 6) = true := fun i h => decide_eq_true h
  unfold ref13_read joinK
  rw [f7]
  dsimp only
  simp only [ref13_read_loop1, joinK, f3, d 0 (by decide), d 1 (by decide), d 2 (by decide), d 3 (by decide), d 4 (by decide), d 5 (by decide), if_true, w0, w1, w2, w3, w4, w5]
  rw [rread_loop2 s 0 (by decide) (by decide), rread_loop2 s 1 (by decide) (by decide), rread_loop2 s 2 (by decide) (by decide), rread_loop2 s 3 (by decide) (by decide), rread_loop2 s 4 (by decide) (by decide), rread_loop2 s 5 (by decide) (by decide)]
  by_cases hr : (readS s).2 = true
  · obtain ⟨y, hy⟩ : ∃ y, readS s = (y, true) := ⟨(readS s).1, by rw [← hr]⟩
    obtain ⟨h0, h1, hw⟩ := readS_some hy
    obtain ⟨n, o⟩ := y
    have h0' : 0 ≤ n := h0
    have h1' : n < 6 := h1
    subst hw
    have hn : n = 0 ∨ n = 1 ∨ n = 2 ∨ n = 3 ∨ n = 4 ∨ n = 5 := by omega
    rcases hn with rfl | rfl | rfl | rfl | rfl | rfl <;> cases o <;> rfl
  · have hn := readS_none (s := s) (by simpa using hr)
    have hf : ∀ y : Stroke, 0 ≤ y.actuator → y.actuator < 6 → (wr y == s) = false := by
      intro y h0 h1
      rw [beq_eq_false_iff_ne]
      intro q
      apply hr
      rw [← q, readS_wr h0 h1]
    have z : ∀ (y : Stroke) (a b : Option (Stroke × Bool)), 0 ≤ y.actuator → y.actuator < 6 → (if (wr y == s) = true then a else b) = b := by
      intro y a b h0 h1
      rw [hf y h0 h1, if_neg (by simp)]
    rw [z _ _ _ (by decide) (by decide), z _ _ _ (by decide) (by decide), z _ _ _ (by decide) (by decide), z _ _ _ (by decide) (by decide), z _ _ _ (by decide) (by decide), z _ _ _ (by decide) (by decide), z _ _ _ (by decide) (by decide), z _ _ _ (by decide) (by decide), z _ _ _ (by decide) (by decide), z _ _ _ (by decide) (by decide), z _ _ _ (by decide) (by decide), z _ _ _ (by decide) (by decide), hn]
    simp
/-! ### words that are delays -/
def okN : List UInt8 → Bool
  | [] => false
  | b :: r => decide ((b :: r).length ≤ 7) && !(b == 48) && (b :: r).all isD
theorem dropW {p : UInt8 → Bool} : ∀ l : List UInt8, (∀ x ∈ l.dropWhile p, p x = true) → l.dropWhile p = []
  | [], _ => rfl
  | a :: r, h => by
    rw [List.dropWhile_cons] at h ⊢
    cases ha : p a
    · rw [ha, if_neg (by simp)] at h
      have := h a (by simp)
      rw [ha] at this
      cases this
    · rw [ha, if_pos rfl] at h
      rw [if_pos rfl]
      exact dropW r h
theorem dropW_all {p : UInt8 → Bool} : ∀ l : List UInt8, l.dropWhile p = [] ↔ l.all p = true
  | [] => by simp
  | a :: r => by
    rw [List.dropWhile_cons, List.all_cons]
    cases ha : p a
    · simp
    · simp [dropW_all r]
theorem trim_all (l cs : List UInt8) : (Lib.trimS l cs == []) = l.all (cs.contains ·) := by
  unfold Lib.trimS Lib.trimLeftS Lib.trimRightS
  rw [Bool.eq_iff_iff, beq_iff_eq]
  constructor
  · intro h
    have h1 := (dropW_all _).1 h
    have h2 : ∀ x ∈ l.reverse.dropWhile (cs.contains ·), cs.contains x = true := fun x hx => List.all_eq_true.1 h1 x (by simpa using hx)
    have h3 := (dropW_all _).1 (dropW _ h2)
    rw [List.all_eq_true] at h3 ⊢
    exact fun x hx => h3 x (by simpa using hx)
  · intro h
    have : l.reverse.dropWhile (cs.contains ·) = [] := (dropW_all _).2 (by
      rw [List.all_eq_true] at h ⊢
      exact fun x hx => h x (by simpa using hx))
    rw [this]
    rfl
theorem digits_isD (b : UInt8) : ([48, 49, 50, 51, 52, 53, 54, 55, 56, 57] : List UInt8).contains b = isD b := by
  have h : ((List.range 256).all fun n => ([48, 49, 50, 51, 52, 53, 54, 55, 56, 57] : List UInt8).contains n.toUInt8 == isD n.toUInt8) = true := by kernel_rfl
  have := List.all_eq_true.1 h b.toNat (List.mem_range.2 (UInt8.toNat_lt b))
  have e : b.toNat.toUInt8 = b := by simp
  rw [e, beq_iff_eq] at this
  exact this
theorem b48' (b : UInt8) : ((b.toNat : Int) == 48) = (b == 48) := by
  rw [Bool.eq_iff_iff, beq_iff_eq, beq_iff_eq]
  exact ⟨fun q => UInt8.toNat_inj.1 (by have : (48 : UInt8).toNat = 48 := rfl; omega), fun q => by rw [q]; rfl⟩
theorem ldelay_eq (s : List UInt8) (hs : s.length ≤ 1000000) : stroke_delay s = some (if okN s = true then (((numV s : Nat) : Int), true) else (0, false)) := by
  unfold stroke_delay
  cases s with
  | nil => rfl
  | cons b r =>
    have e0 : byteAt (b :: r) 0 = some b := rfl
    have hn : ((b :: r) == []) = false := rfl
    rw [hn, e0, Bool.false_or]
    simp only [Option.bind_some]
    rw [b48', okN]
    by_cases h7 : (b :: r).length ≤ 7
    · have d7 : decide ((((b :: r).length : Nat) : Int) > 7) = false := decide_eq_false (by omega)
      rw [d7, decide_eq_true h7, if_neg (by simp), Option.bind_some]
      cases h48 : (b == 48)
      · have ht : trimS (b :: r) [48, 49, 50, 51, 52, 53, 54, 55, 56, 57] = some (Lib.trimS (b :: r) [48, 49, 50, 51, 52, 53, 54, 55, 56, 57]) := by
          unfold trimS
          rw [if_pos ⟨by omega, by decide, by decide⟩]
        rw [if_neg (by simp), ht]
        simp only [Option.bind_some]
        rw [trim_all]
        have hall : ((b :: r).all (([48, 49, 50, 51, 52, 53, 54, 55, 56, 57] : List UInt8).contains ·)) = (b :: r).all isD := by
          congr 1
          funext c
          exact digits_isD c
        rw [hall]
        cases hd : (b :: r).all isD
        · simp
        · rw [Bool.not_true, if_neg (by simp), atoi_pos b r h7 (List.all_eq_true.1 hd)]
          simp
      · simp
    · have d7 : decide ((((b :: r).length : Nat) : Int) > 7) = true := decide_eq_true (by omega)
      rw [d7, decide_eq_false h7]
      simp
theorem rnum_loop (s : List UInt8) (k : Int → Option (Int × Bool)) (hl : s.length ≤ 7) : ∀ (r pre : List UInt8), s = pre ++ r → (∀ b ∈ pre, isD b = true) →
    ref03_Number_loop1 s k (r.length + 1) ((numV pre : Nat) : Int) (pre.length : Int) = if r.all isD = true then k ((numV s : Nat) : Int) else some (0, false)
  | [], pre, e, _ => by
    unfold ref03_Number_loop1
    rw [e, ge_end]
    simp
  | x :: r, pre, e, hp => by
    have hlen : pre.length + (r.length + 1) = s.length := by rw [e]; simp
    have hb : byteAt s (pre.length : Int) = some x := by rw [e]; exact byteAt_mid
    unfold ref03_Number_loop1
    rw [if_pos (by rw [decide_eq_true_eq]; omega), hb]
    simp only [Option.bind_some]
    by_cases hx : isD x = true
    · have hbd := isD_iff.1 hx
      have hlt : numV pre < 10 ^ pre.length := numV_lt pre hp
      have hpw : (10 : Nat) ^ pre.length ≤ 1000000 := Nat.le_trans (Nat.pow_le_pow_right (by omega) (show pre.length ≤ 6 by omega)) (by decide)
      have w1 : IntKind.wrap .i64 (10 * ((numV pre : Nat) : Int)) = ((numV pre : Nat) : Int) * 10 := by rw [wrap64 (by omega) (by omega)]; omega
      have w2 : IntKind.wrap .i64 (((numV pre : Nat) : Int) * 10 + ((x.toNat - 48 : Nat) : Int)) = ((numV (pre ++ [x]) : Nat) : Int) := by
        rw [wrap64 (by omega) (by omega), numV_snoc]
        omega
      have w3 : IntKind.wrap .i64 ((pre.length : Int) + 1) = (((pre ++ [x]).length : Nat) : Int) := by
        rw [wrap64 (by omega) (by omega)]; simp
      have d1 : decide ((x.toNat : Int) < 48) = false := decide_eq_false (by omega)
      have d2 : decide ((x.toNat : Int) > 57) = false := decide_eq_false (by omega)
      rw [d1, d2, digit_step hx, w1, w2, w3]
      simp only [Bool.false_eq_true, if_false, Option.bind_some]
      rw [List.length_cons, List.all_cons, hx, Bool.true_and]
      exact rnum_loop s k hl r (pre ++ [x]) (by rw [e, mid_cons]) (fun c hc => by
        rcases List.mem_append.1 hc with hc | hc
        · exact hp c hc
        · rw [List.mem_singleton.1 hc]; exact hx)
    · have hq : x.toNat < 48 ∨ 57 < x.toNat := by
        have : ¬ (48 ≤ x.toNat ∧ x.toNat ≤ 57) := fun q => hx (isD_iff.2 q)
        omega
      have hx' : isD x = false := by simpa using hx
      rw [List.all_cons, hx', Bool.false_and]
      rcases hq with hq | hq
      · have d1 : decide ((x.toNat : Int) < 48) = true := decide_eq_true (by omega)
        rw [d1]; simp
      · have d2 : decide ((x.toNat : Int) > 57) = true := decide_eq_true (by omega)
        rw [d2]; simp
theorem rnum3_eq (s : List UInt8) : ∃ n ok, ref03_Number s = some (n, ok) ∧ ((!ok || n == 0) = !(okN s)) ∧ (okN s = true → n = ((numV s : Nat) : Int)) := by
  unfold ref03_Number
  cases s with
  | nil => exact ⟨0, false, rfl, rfl, fun h => by cases h⟩
  | cons b r =>
    have e0 : byteAt (b :: r) 0 = some b := rfl
    have hn : ((b :: r) == []) = false := rfl
    rw [hn, e0, Bool.false_or]
    simp only [Option.bind_some]
    rw [b48', okN]
    by_cases h7 : (b :: r).length ≤ 7
    · have d7 : decide ((((b :: r).length : Nat) : Int) > 7) = false := decide_eq_false (by omega)
      rw [d7, decide_eq_true h7, if_neg (by simp)]
      unfold joinK
      dsimp only
      rw [fuel0]
      have q := rnum_loop (b :: r) (fun i3 => some (i3, true)) h7 (b :: r) [] rfl (by simp)
      simp only [List.length_nil, Int.natCast_zero, show ((numV [] : Nat) : Int) = 0 from rfl] at q
      rw [q]
      cases hd : (b :: r).all isD
      · by_cases hc : (b == 48) = true ∧ (b :: r).length > 1
        · refine ⟨0, false, ?_, by simp, by simp⟩
          rw [if_pos (show decide ((((b :: r).length : Nat) : Int) > 1) = true from decide_eq_true (by omega)), hc.1]
          rfl
        · refine ⟨0, false, ?_, by simp, by simp⟩
          by_cases h1 : (b :: r).length > 1
          · have hb48 : (b == 48) = false := by
              cases hh : (b == 48)
              · rfl
              · exact absurd ⟨hh, h1⟩ hc
            rw [if_pos (show decide ((((b :: r).length : Nat) : Int) > 1) = true from decide_eq_true (by omega)), hb48]
            rfl
          · rw [if_neg (by rw [decide_eq_true_eq]; omega)]
            rfl
      · have hdd := List.all_eq_true.1 hd
        cases h48 : (b == 48)
        · have hb : b ≠ 48 := by simpa using h48
          have hbD := isD_iff.1 (hdd b (by simp))
          have hpos : 1 ≤ numV (b :: r) := numV_pos (by
            have : b.toNat ≠ 48 := fun q => hb (UInt8.toNat_inj.1 (by rw [q]; rfl))
            omega)
          refine ⟨((numV (b :: r) : Nat) : Int), true, ?_, ?_, fun _ => rfl⟩
          · by_cases h1 : (b :: r).length > 1
            · rw [if_pos (show decide ((((b :: r).length : Nat) : Int) > 1) = true from decide_eq_true (by omega))]
              simp
            · rw [if_neg (show ¬ decide ((((b :: r).length : Nat) : Int) > 1) = true by rw [decide_eq_true_eq]; omega)]
              simp
          · have : (((numV (b :: r) : Nat) : Int) == 0) = false := by simp; omega
            rw [this]; rfl
        · have hb : b = 48 := by simpa using h48
          by_cases h1 : (b :: r).length > 1
          · refine ⟨0, false, ?_, by simp, by simp⟩
            rw [if_pos (show decide ((((b :: r).length : Nat) : Int) > 1) = true from decide_eq_true (by omega))]
            rfl
          · have hr : r = [] := List.eq_nil_of_length_eq_zero (by have : ¬ r.length + 1 > 1 := h1; omega)
            subst hr
            subst hb
            refine ⟨0, true, ?_, by simp, by simp⟩
            rw [if_neg (show ¬ decide (((([48] : List UInt8).length : Nat) : Int) > 1) = true by decide)]
            rfl
    · have d7 : decide ((((b :: r).length : Nat) : Int) > 7) = true := decide_eq_true (by omega)
      rw [d7, decide_eq_false h7]
      exact ⟨0, false, by simp, by simp, by simp⟩
end Go.Proofs.YtbhcojijafbdiaaGreatDoor.W
