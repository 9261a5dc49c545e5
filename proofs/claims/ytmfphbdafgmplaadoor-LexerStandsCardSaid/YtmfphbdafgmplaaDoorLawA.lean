/- The plain laws of the lexer, first part: classes, numbers, places. No program in sight. -/
import Derived.Test.YtmfphbdafgmplaaDoorNum
set_option linter.unusedVariables false
set_option linter.unusedSimpArgs false
set_option maxHeartbeats 2000000
namespace Go.Proofs.YtmfphbdafgmplaaDoor.W
open Go Go.RowKit
theorem awake_true : law12_awake = some true := by kernel_rfl
theorem short_eq (s : List UInt8) : ∃ b, ref12_Short s = some b ∧ (b = true → s.length ≤ 400 ∨ 4096 < s.length ∧ s.length < 8192) := by
  refine ⟨_, rfl, fun h => ?_⟩
  simp only [Bool.or_eq_true, Bool.and_eq_true, decide_eq_true_eq] at h
  omega
/-! ### the classes of bytes -/
def signs : List UInt8 := [43, 45, 42, 47, 40, 41, 91, 93, 123, 125, 60, 62, 61, 44, 59, 58, 124, 38, 33, 35, 46]
def signB (b : UInt8) : Bool := signs.contains b
def cls (b : UInt8) : Int := if letter b then 1 else if isD b then 2 else if b == 95 then 3 else if signB b then 4 else if b == 32 || b == 10 then 5 else 0
theorem cls_all : ((List.range 256).all fun n => lexer_class (n : Int) == some (cls n.toUInt8) && ref12_Sign (n : Int) == some (signB n.toUInt8)) = true := by kernel_rfl
theorem cls_eq (b : UInt8) : lexer_class (b.toNat : Int) = some (cls b) ∧ ref12_Sign (b.toNat : Int) = some (signB b) := by
  have h := List.all_eq_true.1 cls_all b.toNat (List.mem_range.2 (UInt8.toNat_lt b))
  rw [Bool.and_eq_true, beq_iff_eq, beq_iff_eq] at h
  have e : b.toNat.toUInt8 = b := by simp
  rw [e] at h
  exact h
theorem all_take {p : UInt8 → Bool} : ∀ {s : List UInt8}, s.all p = true → s.takeWhile p = s
  | [], _ => rfl
  | b :: r, h => by
    rw [List.all_cons, Bool.and_eq_true] at h
    rw [List.takeWhile_cons, if_pos h.1, all_take h.2]
theorem runI_val (s : List UInt8) (hb : s.length ≤ 4611686018427387904) : lexer_run s [1, 2, 3] = some ((s.takeWhile inner).length : Int) := by
  unfold lexer_run joinK
  rw [fuel0]
  have e0 := run_loop s (some (s.length : Int)) hb s [] rfl
  simp only [List.length_nil, Int.natCast_zero] at e0
  refine Eq.trans e0 ?_
  cases h : s.all inner
  · simp
  · rw [if_pos rfl, all_take h]
theorem runD_val (s : List UInt8) (hb : s.length ≤ 4611686018427387904) : lexer_run s [2] = some ((s.takeWhile isD).length : Int) := by
  rw [runD_eq s hb]
  cases h : s.all isD
  · simp
  · rw [if_pos rfl, all_take h]
theorem run0_val (b : UInt8) (r : List UInt8) : lexer_run (b :: r) [] = some 0 := by
  unfold lexer_run joinK
  rw [fuel0]
  unfold lexer_run_loop1 joinK
  have h : decide ((0 : Int) < (((b :: r).length : Nat) : Int)) = true := decide_eq_true (by simp)
  dsimp only
  rw [if_pos h]
  rfl
/-! ### numbers -/
theorem tmod_e (k m : Int) (h : 0 ≤ k) : Int.tmod k m = k % m := Int.tmod_eq_emod_of_nonneg h
theorem digits_big (n : Nat) (h : n ≤ 9999999) : ref12_Digits (n : Int) = some (Lib.decDigits n) := by
  unfold ref12_Digits joinK
  rw [tmod_nat, cut_digit ⟨n % 10, by omega⟩, tdiv_nat]
  simp only [Option.bind_some]
  rw [wrap64 (by omega) (by omega), show ((n : Int).toNat + 2) = n + 2 by simp, digits_loop _ (n + 2) (n / 10) _ (by omega) (by simp; omega)]
  by_cases h1 : n / 10 = 0
  · rw [if_pos h1, dec_small (by omega), show n % 10 = n by omega]
  · have hd : Lib.decDigits n = Lib.decDigits (n / 10) ++ [UInt8.ofNat (48 + n % 10)] := dec_big (by omega)
    rw [if_neg h1, hd]
theorem letter_isD {b : UInt8} (h : isD b = true) : letter b = false := by
  have := isD_iff.1 h
  unfold letter
  simp
  omega
theorem word_dec (n : Nat) : word (Lib.decDigits n) = 3 := by
  cases h : Lib.decDigits n with
  | nil => rfl
  | cons b r =>
    rw [word_cons, if_pos (letter_isD (dec_all n b (by rw [h]; simp)))]
theorem dec_zero_iff (n : Nat) : Lib.decDigits n = [48] ↔ n = 0 := by
  constructor
  · intro h
    have := dec_val n
    rw [h] at this
    exact this.symm
  · rintro rfl; exact dec_small (by decide)
theorem law_Numbers (k : Int) (h0 : 0 ≤ k) (h1 : k ≤ 4294967295) : law12_LexerNumbers k = some true := by
  unfold law12_LexerNumbers
  rw [wrap64 (by omega) (by omega), tmod_e _ _ h0]
  obtain ⟨n, hn⟩ : ∃ n : Nat, k % 10000000 = (n : Int) := ⟨(k % 10000000).toNat, by omega⟩
  have hlt : n ≤ 9999999 := by omega
  have hl : (Lib.decDigits n).length ≤ 7 := dec_len 6 n (by omega)
  rw [hn, digits_big n hlt, Option.bind_some, lval_eq _ (by omega), Option.bind_some, valS_dec hlt, catO_small (by simp; omega), Option.bind_some, lval_eq _ (by simp; omega), Option.bind_some, lnum_eq _ (by omega), lword_eq _ (by omega), num_dec hlt, word_dec]
  simp only [Option.bind_some, bne_self_eq_false, Bool.or_self, Bool.false_eq_true, if_false]
  have hv : valS (45 :: Lib.decDigits n) = if n = 0 then (0, 3) else (-(n : Int), 0) := by
    rw [valS_neg, if_neg (by rw [num_dec hlt]; simp), dec_val]
    by_cases h : n = 0
    · rw [if_pos ((dec_zero_iff n).2 h), if_pos h]
    · rw [if_neg (fun q => h ((dec_zero_iff n).1 q)), if_neg h]
  rw [List.singleton_append, hv, awake_true]
  by_cases h : n = 0
  · subst h
    rfl
  · rw [if_neg h]
    have q : ((n : Int) == 0) = false := by simpa using h
    rw [q]
    simp only [Bool.false_eq_true, if_false, wrap64 (x := 0 - (n : Int)) (by omega) (by omega)]
    simp
/-! ### places -/
theorem lastIdx_nil : Lib.lastIndex [] [10] = -1 := rfl
theorem lastOcc_congr {s t sub : List UInt8} : ∀ (k : Nat), (∀ j, j < k → Lib.occAt s sub j = Lib.occAt t sub j) → Lib.lastOcc s sub k = Lib.lastOcc t sub k
  | 0, _ => rfl
  | k + 1, h => by
    unfold Lib.lastOcc
    rw [h k (by omega), lastOcc_congr k (fun j hj => h j (by omega))]
theorem occ_one (c : UInt8) (s : List UInt8) (j : Nat) : Lib.occAt s [c] j = (s[j]? == some c) := by
  unfold Lib.occAt
  rw [← List.head?_drop]
  cases s.drop j with
  | nil => rfl
  | cons b r =>
    simp only [List.isPrefixOf, List.head?_cons, Bool.and_true]
    rw [Bool.eq_iff_iff, beq_iff_eq, beq_iff_eq]
    exact ⟨fun h => by rw [h], fun h => (Option.some.inj h).symm⟩
theorem lastIdx_snoc (c : UInt8) (p : List UInt8) (b : UInt8) : Lib.lastIndex (p ++ [b]) [c] = if b = c then (p.length : Int) else Lib.lastIndex p [c] := by
  unfold Lib.lastIndex
  rw [if_pos (by simp)]
  have e : (p ++ [b]).length - [c].length + 1 = p.length + 1 := by simp
  rw [e, Lib.lastOcc, occ_one]
  have e2 : (p ++ [b])[p.length]? = some b := by simp
  rw [e2]
  by_cases h : b = c
  · subst h; simp
  · have q : (some b == some c) = false := by simpa using h
    rw [q, if_neg (by simp), if_neg h, lastOcc_congr (t := p) p.length (fun j hj => by rw [occ_one, occ_one, List.getElem?_append_left hj])]
    cases p with
    | nil => rfl
    | cons x r => rw [if_pos (by simp)]; rfl
theorem count_snoc (c b : UInt8) (p : List UInt8) : (p ++ [b]).count c = p.count c + if b = c then 1 else 0 := by
  rw [List.count_append, List.count_singleton]
  simp
theorem lastIdx_lt (c : UInt8) (p : List UInt8) : -1 ≤ Lib.lastIndex p [c] ∧ Lib.lastIndex p [c] < p.length := by
  induction p using snoc_ind with
  | h0 => rw [show Lib.lastIndex [] [c] = -1 from rfl]; exact ⟨by decide, by decide⟩
  | h1 p b ih =>
    rw [lastIdx_snoc]
    split <;> simp <;> omega
theorem rpos_loop (T : List UInt8) (n : Int) (k : Int → Int → Option (Int × Int × Int)) (hT : T.length ≤ 4096) (B rest : List UInt8) (e : T = B ++ rest) (hn : n = (B.length : Int)) : ∀ (r pre : List UInt8), B = pre ++ r →
    ref12_Position_loop1 T n k (r.length + 1) (pre.count 10 : Nat) ((pre.length : Int) - 1 - Lib.lastIndex pre [10]) (pre.length : Int) = k (B.count 10 : Nat) ((B.length : Int) - 1 - Lib.lastIndex B [10])
  | [], pre, eb => by
    have : B = pre := by rw [eb]; simp
    subst this
    unfold ref12_Position_loop1
    rw [if_neg (by rw [hn]; simp)]
  | x :: r, pre, eb => by
    have hl : B.length = pre.length + (r.length + 1) := by rw [eb]; simp
    have hb : byteAt T (pre.length : Int) = some x := by
      rw [e, eb, List.append_assoc, List.cons_append]
      exact byteAt_mid
    have hlen : B.length ≤ 4096 := by have := congrArg List.length e; simp at this; omega
    have hc : pre.count 10 ≤ pre.length := List.count_le_length
    have hx := lastIdx_lt 10 pre
    unfold ref12_Position_loop1 joinK
    dsimp only
    rw [if_pos (by rw [hn, decide_eq_true_eq]; omega), hb, Option.bind_some]
    have ih := rpos_loop T n k hT B rest e hn r (pre ++ [x]) (by rw [eb]; simp)
    rw [count_snoc, lastIdx_snoc] at ih
    rw [wrap64 (x := (pre.length : Int) + 1) (by omega) (by omega)]
    have e1 : (((pre ++ [x]).length : Nat) : Int) = (pre.length : Int) + 1 := by simp
    rw [e1] at ih
    by_cases h10 : x = 10
    · subst h10
      rw [if_pos (by decide), wrap64 (by omega) (by omega)]
      rw [if_pos rfl, if_pos rfl] at ih
      refine Eq.trans ?_ ih
      congr 1
      omega
    · have hne : ((x.toNat : Int) == 10) = false := by
        rw [beq_eq_false_iff_ne]
        intro q
        exact h10 (UInt8.toNat_inj.1 (by have : (10 : UInt8).toNat = 10 := rfl; omega))
      rw [hne, if_neg (by simp), wrap64 (by omega) (by omega)]
      rw [if_neg h10, if_neg h10] at ih
      refine Eq.trans ?_ ih
      congr 1
      omega
def posS (s : List UInt8) (at_ : Int) : Int × Int × Int :=
  if 4096 < s.length then (0, 0, 17) else if at_ < 0 ∨ at_ > s.length then (0, 0, 2) else (((s.take at_.toNat).count 10 : Nat), at_ - 1 - Lib.lastIndex (s.take at_.toNat) [10], 0)
theorem lpos_eq (s : List UInt8) (at_ : Int) : lexer_Position s at_ = some (posS s at_) := by
  unfold lexer_Position posS
  by_cases h : 4096 < s.length
  · rw [if_pos (decide_eq_true (by omega)), if_pos h]
  · rw [if_neg (by rw [decide_eq_true_eq]; omega), if_neg h]
    by_cases h2 : at_ < 0 ∨ at_ > s.length
    · rw [if_pos (by simpa using h2), if_pos h2]
    · rw [if_neg (by simpa using h2), if_neg h2]
      obtain ⟨n, rfl⟩ : ∃ n : Nat, at_ = (n : Int) := ⟨at_.toNat, by omega⟩
      have hx := lastIdx_lt 10 (s.take n)
      have hl : (s.take n).length ≤ 4096 := by rw [List.length_take]; omega
      rw [cut_take (by omega), Option.bind_some]
      unfold countS lastIdx
      rw [if_pos (by omega)]
      simp only [Option.bind_some, Int.toNat_natCast]
      rw [wrap64 (x := (n : Int) - 1) (by omega) (by omega), wrap64 (by omega) (by omega)]
      rfl
theorem rpos_eq (s : List UInt8) (at_ : Int) : ref12_Position s at_ = some (posS s at_) := by
  unfold ref12_Position posS
  by_cases h : 4096 < s.length
  · rw [if_pos (decide_eq_true (by omega)), if_pos h]
  · rw [if_neg (by rw [decide_eq_true_eq]; omega), if_neg h]
    by_cases h2 : at_ < 0 ∨ at_ > s.length
    · rw [if_pos (by simpa using h2), if_pos h2]
    · rw [if_neg (by simpa using h2), if_neg h2]
      obtain ⟨n, rfl⟩ : ∃ n : Nat, at_ = (n : Int) := ⟨at_.toNat, by omega⟩
      have hl : (s.take n).length = n := by rw [List.length_take]; omega
      have := rpos_loop s (n : Int) (fun i6 i7 => some (i6, i7, 0)) (by omega) (s.take n) (s.drop n) (List.take_append_drop n s).symm (by rw [hl]) (s.take n) [] rfl
      rw [hl] at this
      unfold joinK
      rw [show Int.toNat ((n : Int) - 0) + 1 = n + 1 by omega]
      exact this
theorem law_Places (s : List UInt8) (at_ : Int) : law12_LexerPlaces s at_ = some true := by
  unfold law12_LexerPlaces
  obtain ⟨b, hb, _⟩ := short_eq s
  rw [hb, Option.bind_some, awake_true, lpos_eq, rpos_eq]
  cases b <;> simp
end Go.Proofs.YtmfphbdafgmplaaDoor.W
