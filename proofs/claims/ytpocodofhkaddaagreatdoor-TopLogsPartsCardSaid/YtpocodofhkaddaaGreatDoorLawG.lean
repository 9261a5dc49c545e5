/- The plain laws of the journal, seventh part: marks, texts, Log; the law JournalRuns. -/
import Derived.Test.YtpocodofhkaddaaGreatDoorLawF
set_option linter.unusedVariables false
set_option linter.unusedSimpArgs false
set_option maxHeartbeats 2000000
namespace Go.Proofs.YtpocodofhkaddaaGreatDoor.W
open Go Go.RowKit
/-! ### numbers -/
theorem cut_digit : ∀ r : Fin 10, cut [48, 49, 50, 51, 52, 53, 54, 55, 56, 57] (r.val : Int) (IntKind.wrap .i64 ((r.val : Int) + 1)) = some [UInt8.ofNat (48 + r.val)] := by decide +kernel
theorem tmod_nat (n : Nat) : Int.tmod (n : Int) 10 = ((n % 10 : Nat) : Int) := by
  rw [Int.tmod_eq_emod_of_nonneg (by omega)]
  omega
theorem tdiv_nat (n : Nat) : Int.tdiv (n : Int) 10 = ((n / 10 : Nat) : Int) := by
  rw [Int.tdiv_eq_ediv_of_nonneg (by omega)]
  omega
theorem catO_small {s t : List UInt8} (h : s.length + t.length ≤ 1000000000) : catO s t = some (s ++ t) := by
  unfold catO
  rw [if_pos (Nat.le_trans h (by decide))]
theorem digits_loop (k : List UInt8 → Option (List UInt8)) : ∀ (m n : Nat) (s : List UInt8), n + 1 ≤ m → s.length + n ≤ 4000000 → ref12_Digits_loop1 k m (n : Int) s = k (if n = 0 then s else Lib.decDigits n ++ s)
  | 0, n, s, h, _ => by omega
  | m + 1, n, s, h, hs => by
    unfold ref12_Digits_loop1
    by_cases h0 : n = 0
    · subst h0
      simp
    · rw [if_pos (by rw [decide_eq_true_eq]; omega), tmod_nat, cut_digit ⟨n % 10, by omega⟩, tdiv_nat]
      simp only [Option.bind_some]
      rw [catO_small (by simp; omega), wrap64 (by omega) (by omega)]
      simp only [Option.bind_some]
      rw [digits_loop k m (n / 10) _ (by omega) (by simp; omega), if_neg h0]
      by_cases h1 : n / 10 = 0
      · rw [if_pos h1, dec_small (by omega), show n % 10 = n by omega]
      · have hd : Lib.decDigits n = Lib.decDigits (n / 10) ++ [UInt8.ofNat (48 + n % 10)] := dec_big (by omega)
        rw [if_neg h1, hd, List.append_assoc]
theorem digits_eq (n : Nat) (h : n ≤ 1048576) : ref12_Digits (n : Int) = some (Lib.decDigits n) := by
  unfold ref12_Digits joinK
  rw [tmod_nat, cut_digit ⟨n % 10, by omega⟩, tdiv_nat]
  simp only [Option.bind_some]
  rw [wrap64 (by omega) (by omega), show ((n : Int).toNat + 2) = n + 2 by simp, digits_loop _ (n + 2) (n / 10) _ (by omega) (by simp; omega)]
  by_cases h1 : n / 10 = 0
  · rw [if_pos h1, dec_small (by omega), show n % 10 = n by omega]
  · have hd : Lib.decDigits n = Lib.decDigits (n / 10) ++ [UInt8.ofNat (48 + n % 10)] := dec_big (by omega)
    rw [if_neg h1, hd]
theorem itoa_eq (n : Nat) (h : n ≤ 1048576) : itoa (n : Int) = some (Lib.decDigits n) := by
  unfold itoa Lib.itoa
  rw [if_pos (by omega), if_neg (by omega)]
  simp
theorem dec7 {n : Nat} (h : n ≤ 1048576) : (Lib.decDigits n).length ≤ 7 := dec_len 6 n (by omega)
theorem num_eq {a : Int} (h0 : 0 ≤ a) (h1 : a ≤ 1048576) : itoa a = some (Lib.decDigits a.toNat) ∧ ref12_Digits a = some (Lib.decDigits a.toNat) ∧ (Lib.decDigits a.toNat).length ≤ 7 := by
  have e : ((a.toNat : Nat) : Int) = a := Int.toNat_of_nonneg h0
  have h1 := itoa_eq a.toNat (by omega)
  have h2 := digits_eq a.toNat (by omega)
  rw [e] at h1 h2
  exact ⟨h1, h2, dec7 (by omega)⟩
/-! ### marks -/
def markS (a : Int) (b : UInt8) : Int := Int.tmod (31 * a + (b.toNat : Int) + 7) 65521
theorem markS_bd {a : Int} {b : UInt8} (h0 : 0 ≤ a) (h1 : a < 65521) : 0 ≤ markS a b ∧ markS a b < 65521 := by
  unfold markS
  rw [Int.tmod_eq_emod_of_nonneg (by omega)]
  omega
theorem mark_fold_bd : ∀ (s : List UInt8) (a : Int), 0 ≤ a → a < 65521 → 0 ≤ s.foldl markS a ∧ s.foldl markS a < 65521
  | [], a, h0, h1 => ⟨h0, h1⟩
  | b :: r, a, h0, h1 => mark_fold_bd r (markS a b) (markS_bd h0 h1).1 (markS_bd h0 h1).2
theorem mark_step {a : Int} (b : UInt8) (h0 : 0 ≤ a) (h1 : a < 65521) : Int.tmod (IntKind.wrap .i64 ((IntKind.wrap .i64 ((IntKind.wrap .i64 (31 * a)) + (IntKind.wrap .i64 (b.toNat : Int)))) + 7)) 65521 = markS a b := by
  have hb : b.toNat < 256 := UInt8.toNat_lt b
  rw [wrap64 (x := 31 * a) (by omega) (by omega), wrap64 (x := (b.toNat : Int)) (by omega) (by omega), wrap64 (x := 31 * a + (b.toNat : Int)) (by omega) (by omega), wrap64 (by omega) (by omega)]
  rfl
theorem rmark_loop (s : List UInt8) (k : Int → Option Int) (hb : s.length ≤ 4611686018427387904) : ∀ (r pre : List UInt8) (a : Int), s = pre ++ r → 0 ≤ a → a < 65521 → ref58_Mark_loop1 s k (r.length + 1) a (pre.length : Int) = k (r.foldl markS a)
  | [], pre, a, e, _, _ => by
    unfold ref58_Mark_loop1
    rw [e, ge_end]
    rfl
  | b :: r, pre, a, e, h0, h1 => by
    unfold ref58_Mark_loop1
    rw [e, lt_mid, if_pos rfl, byteAt_mid, Option.bind_some, wrap_mid (x := b) (r := r) (by rw [← e]; exact hb), mark_step b h0 h1, ← e]
    exact rmark_loop s k hb r (pre ++ [b]) (markS a b) (by rw [e, mid_cons]) (markS_bd h0 h1).1 (markS_bd h0 h1).2
theorem jmark_loop (s : List UInt8) (k : Int → Option Int) (hb : s.length ≤ 4611686018427387904) : ∀ (r pre : List UInt8) (a : Int), s = pre ++ r → 0 ≤ a → a < 65521 → journal_mark_loop1 s k (r.length + 1) a (pre.length : Int) = k (r.foldl markS a)
  | [], pre, a, e, _, _ => by
    unfold journal_mark_loop1
    rw [e, ge_end]
    rfl
  | b :: r, pre, a, e, h0, h1 => by
    unfold journal_mark_loop1
    rw [e, lt_mid, if_pos rfl, byteAt_mid, Option.bind_some, wrap_mid (x := b) (r := r) (by rw [← e]; exact hb), Int.mul_comm a 31, mark_step b h0 h1, ← e]
    exact jmark_loop s k hb r (pre ++ [b]) (markS a b) (by rw [e, mid_cons]) (markS_bd h0 h1).1 (markS_bd h0 h1).2
theorem mark_eq (a : Int) (s : List UInt8) (hb : s.length ≤ 4611686018427387904) (h0 : 0 ≤ a) (h1 : a < 65521) : journal_mark a s = some (s.foldl markS a) ∧ ref58_Mark a s = some (s.foldl markS a) := by
  have ht : Int.tmod a 65521 = a := by
    rw [Int.tmod_eq_emod_of_nonneg h0]
    omega
  unfold journal_mark ref58_Mark joinK
  rw [fuel0, ht]
  have e1 := jmark_loop s (fun i3 => some i3) hb s [] a rfl h0 h1
  have e2 := rmark_loop s (fun i4 => some i4) hb s [] a rfl h0 h1
  simp only [List.length_nil, Int.natCast_zero] at e1 e2
  have hn : decide (a < 0) = false := decide_eq_false (by omega)
  simp only [hn, Bool.false_eq_true, if_false]
  exact ⟨e1, e2⟩
/-! ### texts -/
/-! ### Log -/
end Go.Proofs.YtpocodofhkaddaaGreatDoor.W
