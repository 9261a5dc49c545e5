/- The plain laws on texts of spans. -/
import Derived.Test.YtllhdlnnlckceaaDoorLaw
import Derived.Test.YtllhdlnnlckceaaDoorLibN
set_option linter.unusedVariables false
set_option linter.unusedSimpArgs false
namespace Go.Proofs.YtllhdlnnlckceaaDoor.W
open Go Go.RowKit
theorem wrapU8 {x : Int} (h : 0 ≤ x) (k : x ≤ 255) : IntKind.wrap .u8 x = x := by
  unfold IntKind.wrap
  simp [IntKind.bits, IntKind.signed]
  omega
theorem cut_digit : ∀ r : Fin 10, cut [48, 49, 50, 51, 52, 53, 54, 55, 56, 57] (r.val : Int) (IntKind.wrap .i64 ((r.val : Int) + 1)) = some [UInt8.ofNat (48 + r.val)] := by decide +kernel
theorem tmod_nat (n : Nat) : Int.tmod (n : Int) 10 = ((n % 10 : Nat) : Int) := by
  rw [Int.tmod_eq_emod_of_nonneg (by omega)]
  omega
theorem tdiv_nat (n : Nat) : Int.tdiv (n : Int) 10 = ((n / 10 : Nat) : Int) := by
  rw [Int.tdiv_eq_ediv_of_nonneg (by omega)]
  omega
theorem catO_small {s t : List UInt8} (h : s.length + t.length ≤ 1000000000) : catO s t = some (s ++ t) := by
  unfold catO
  rw [if_pos (Nat.le_trans h (by decide))]
theorem digits_loop (k : List UInt8 → Option (List UInt8)) : ∀ (m n : Nat) (s : List UInt8), n + 1 ≤ m → s.length + n ≤ 2000000 → s ≠ [] → ref03_Digits_loop1 k m s n = k (if n = 0 then s else Lib.decDigits n ++ s)
  | 0, n, s, h, _, _ => by omega
  | m + 1, n, s, h, hs, hne => by
    rw [ref03_Digits_loop1]
    have e : (s == []) = false := by cases s with | nil => exact absurd rfl hne | cons _ _ => rfl
    by_cases h0 : n = 0
    · subst h0
      simp [e]
    · rw [if_pos (by simp [e]; omega), tmod_nat, cut_digit ⟨n % 10, by omega⟩, tdiv_nat]
      simp only [Option.bind_some]
      rw [catO_small (by simp; omega), wrap64 (by omega) (by omega)]
      simp only [Option.bind_some]
      rw [digits_loop k m (n / 10) _ (by omega) (by simp; omega) (by simp), if_neg h0]
      by_cases h1 : n / 10 = 0
      · rw [if_pos h1, dec_small (by omega), show n % 10 = n by omega]
      · have hd : Lib.decDigits n = Lib.decDigits (n / 10) ++ [UInt8.ofNat (48 + n % 10)] := dec_big (by omega)
        rw [if_neg h1, hd, List.append_assoc]
theorem digits_eq (n : Nat) (h : n ≤ 1000000) : ref03_Digits n = some (Lib.decDigits n) := by
  unfold ref03_Digits joinK
  rw [show ((n : Int).toNat + 2) = (n + 1) + 1 by simp]
  show ref03_Digits_loop1 (fun s4 => some s4) (n + 1 + 1) [] (n : Int) = _
  rw [ref03_Digits_loop1, if_pos (by simp), tmod_nat, cut_digit ⟨n % 10, by omega⟩, tdiv_nat]
  simp only [Option.bind_some]
  rw [catO_small (by simp), wrap64 (by omega) (by omega)]
  simp only [Option.bind_some, List.append_nil]
  rw [digits_loop _ (n + 1) (n / 10) _ (by omega) (by simp; omega) (by simp)]
  by_cases h1 : n / 10 = 0
  · rw [if_pos h1, dec_small (by omega), show n % 10 = n by omega]
  · have hd : Lib.decDigits n = Lib.decDigits (n / 10) ++ [UInt8.ofNat (48 + n % 10)] := dec_big (by omega)
    rw [if_neg h1, hd]
theorem itoa_eq (n : Nat) (h : n ≤ 1000000) : itoa n = some (Lib.decDigits n) := by
  unfold itoa Lib.itoa
  rw [if_pos (by omega), if_neg (by omega)]
  simp
/-- what Format gives -/
def fmt (a : Span) : List UInt8 := if a.high > a.low then Lib.decDigits a.low.toNat ++ 46 :: 46 :: Lib.decDigits a.high.toNat else Lib.decDigits a.low.toNat
theorem dec7 {n : Nat} (h : n ≤ 1000000) : (Lib.decDigits n).length ≤ 7 := dec_len 6 n (by omega)
theorem format_ok {a : Span} (h : Ok a) : timespan_Format a = some (fmt a, 0) ∧ ref03_Format a = some (fmt a, 0) := by
  obtain ⟨l0, l1, h0, h1, lh⟩ := h
  have h : Ok a := ⟨l0, l1, h0, h1, lh⟩
  have e1 := itoa_eq a.low.toNat (by omega)
  have e2 := itoa_eq a.high.toNat (by omega)
  have d1 := digits_eq a.low.toNat (by omega)
  have d2 := digits_eq a.high.toNat (by omega)
  have n1 := dec7 (n := a.low.toNat) (by omega)
  have n2 := dec7 (n := a.high.toNat) (by omega)
  rw [Int.toNat_of_nonneg l0] at e1 d1
  rw [Int.toNat_of_nonneg h0] at e2 d2
  unfold timespan_Format ref03_Format fmt joinK
  rw [check_eq, check_ok h, e1, d1, e2, d2]
  by_cases hc : a.high > a.low
  · have hne : (a.low == a.high) = false := by simp; omega
    simp only [Option.bind_some, bne_self_eq_false, Bool.false_eq_true, if_false, hc, decide_true, if_true, hne]
    rw [catO_small (by simp; omega), catO_small (by simp; omega)]
    simp only [Option.bind_some]
    rw [catO_small (by simp; omega), catO_small (by simp; omega)]
    simp
  · have he : a.low = a.high := by omega
    simp [hc, he]
theorem format_eq (a : Span) : ∃ r, timespan_Format a = some r ∧ ref03_Format a = some r := by
  obtain ⟨r, h1, h2⟩ := check_some a
  by_cases hr : r = 0
  · exact ⟨_, format_ok (h2.1 hr)⟩
  · refine ⟨([], r), ?_, ?_⟩
    · unfold timespan_Format
      rw [check_eq, h1]
      simp [hr]
    · unfold ref03_Format
      rw [h1]
      simp [hr]
def digs : List UInt8 := [48, 49, 50, 51, 52, 53, 54, 55, 56, 57]
theorem digs_isD_fin : ∀ n : Fin 256, digs.contains (UInt8.ofNat n.val) = isD (UInt8.ofNat n.val) := by decide +kernel
theorem digs_isD (b : UInt8) : digs.contains b = isD b := by
  have := digs_isD_fin ⟨b.toNat, b.toNat_lt⟩
  simpa using this
theorem contains_eq (c : List UInt8) (b : UInt8) : strings_asciiSet_contains (setOf c) (b.toNat : Int) = some (c.contains b) := by
  unfold strings_asciiSet_contains
  rw [at?_nat]
  have h := b.toNat_lt
  have : (setOf c)[b.toNat]? = some (c.contains b) := by
    unfold setOf
    rw [List.getElem?_map, List.getElem?_range h]
    simp
  rw [this]
  rfl
theorem byteAt_nat (s : List UInt8) (i : Nat) : byteAt s (i : Int) = s[i]? := by
  unfold byteAt
  rw [if_pos (Int.natCast_nonneg i)]
  rfl
theorem cut_nat (s : List UInt8) (i j : Nat) (h : i ≤ j) (h' : j ≤ s.length) : cut s (i : Int) (j : Int) = some ((s.drop i).take (j - i)) := by
  unfold cut
  rw [if_pos ⟨by omega, by omega, by omega⟩]
  simp
theorem trimL (c : List UInt8) (k : List UInt8 → Option (List UInt8)) : ∀ (m : Nat) (s : List UInt8), s.length < m → strings_trimLeftASCII_loop1 (setOf c) k m s = k (s.dropWhile fun b => c.contains b)
  | 0, s, h => by omega
  | m + 1, [], h => by simp [strings_trimLeftASCII_loop1]
  | m + 1, b :: r, h => by
    rw [strings_trimLeftASCII_loop1, if_pos (by simp)]
    have e : byteAt (b :: r) 0 = some b := rfl
    rw [e]
    simp only [Option.bind_some, contains_eq, List.dropWhile_cons]
    by_cases hb : c.contains b = true
    · have e2 : cut (b :: r) 1 ((b :: r).length : Int) = some r := by
        have := cut_nat (b :: r) 1 (b :: r).length (by simp) (Nat.le_refl _)
        simpa using this
      simp only [hb, Bool.not_true, Bool.false_eq_true, if_false, if_true, e2, Option.bind_some]
      exact trimL c k m r (by simpa using h)
    · simp only [hb, Bool.not_false, if_true, Bool.false_eq_true, if_false]
def rdrop (p : UInt8 → Bool) (s : List UInt8) : List UInt8 := (s.reverse.dropWhile p).reverse
theorem rdrop_snoc (p : UInt8 → Bool) (s : List UInt8) (b : UInt8) : rdrop p (s ++ [b]) = if p b then rdrop p s else s ++ [b] := by
  unfold rdrop
  rw [List.reverse_append, List.reverse_singleton, List.singleton_append, List.dropWhile_cons]
  split
  · rfl
  · simp
theorem trimR (c : List UInt8) (k : List UInt8 → Option (List UInt8)) : ∀ (m : Nat) (s : List UInt8), s.length < m → s.length < 9223372036854775807 → strings_trimRightASCII_loop1 (setOf c) k m s = k (rdrop (fun b => c.contains b) s)
  | 0, s, h, _ => by omega
  | m + 1, s, h, hl => by
    rcases List.eq_nil_or_concat s with rfl | ⟨t, b, rfl⟩
    · simp [strings_trimRightASCII_loop1, rdrop]
    · rw [List.concat_eq_append] at *
      have hlen : (t ++ [b]).length = t.length + 1 := by simp
      have hw : IntKind.wrap .i64 (((t ++ [b]).length : Int) - 1) = (t.length : Int) := by
        rw [hlen, wrap64 (by omega) (by omega)]
        omega
      rw [strings_trimRightASCII_loop1, if_pos (by simp), hw, byteAt_nat]
      have e : (t ++ [b])[t.length]? = some b := by simp
      rw [e]
      simp only [Option.bind_some, contains_eq, rdrop_snoc]
      by_cases hb : c.contains b = true
      · have e2 : cut (t ++ [b]) 0 (t.length : Int) = some t := by
          have := cut_nat (t ++ [b]) 0 t.length (by simp) (by simp)
          simpa using this
        simp only [hb, Bool.not_true, Bool.false_eq_true, if_false, if_true, e2, Option.bind_some]
        exact trimR c k m t (by omega) (by omega)
      · simp only [hb, Bool.not_false, if_true, Bool.false_eq_true, if_false]
theorem dropWhile_nil {p : UInt8 → Bool} : ∀ l : List UInt8, l.dropWhile p = [] → ∀ x ∈ l, p x = true
  | [], _, x, hx => by cases hx
  | b :: r, h, x, hx => by
    rw [List.dropWhile_cons] at h
    by_cases hb : p b = true
    · rw [if_pos hb] at h
      rcases List.mem_cons.1 hx with rfl | hx
      · exact hb
      · exact dropWhile_nil r h x hx
    · rw [if_neg hb] at h
      cases h
theorem trimRight_eq (c s : List UInt8) (hl : s.length < 9223372036854775807) : strings_trimRightASCII s (setOf c) = some (rdrop (fun b => c.contains b) s) := by
  unfold strings_trimRightASCII joinK
  exact trimR c (fun s3 => some s3) (s.length + 1) s (by omega) hl
theorem trimLeft_eq (c s : List UInt8) : strings_trimLeftASCII s (setOf c) = some (s.dropWhile fun b => c.contains b) := by
  unfold strings_trimLeftASCII joinK
  exact trimL c (fun s3 => some s3) (s.length + 1) s (by omega)
theorem rdrop_all (p : UInt8 → Bool) : ∀ s : List UInt8, (rdrop p s).dropWhile p = [] ↔ s.all p = true := by
  refine snoc_ind (by simp [rdrop]) (fun t b ih => ?_)
  rw [rdrop_snoc, List.all_append]
  by_cases hb : p b = true
  · rw [if_pos hb, ih]
    simp [hb]
  · rw [if_neg hb]
    simp only [List.all_cons, List.all_nil, hb, Bool.false_and, Bool.and_false, Bool.false_eq_true, iff_false]
    intro h
    have := dropWhile_nil _ h b (by simp)
    exact hb this
theorem trim_eq (s : List UInt8) (hs : s ≠ []) (hl : s.length < 9223372036854775807) : ∃ r, trimS s [48, 49, 50, 51, 52, 53, 54, 55, 56, 57] = some r ∧ (r = [] ↔ ∀ b ∈ s, isD b = true) := by
  have e : (s == []) = false := by cases s with | nil => exact absurd rfl hs | cons _ _ => rfl
  refine ⟨(rdrop (fun b => digs.contains b) s).dropWhile (fun b => digs.contains b), ?_, ?_⟩
  · unfold trimS
    have h2 : (guardO ((!(((([48, 49, 50, 51, 52, 53, 54, 55, 56, 57] : List UInt8).length : Int)) == 1)) && decide ((([48, 49, 50, 51, 52, 53, 54, 55, 56, 57] : List UInt8).length) < 4294967281) && ([48, 49, 50, 51, 52, 53, 54, 55, 56, 57] : List UInt8).all (fun b => decide (b.toNat < 128)))) = some () := by decide +kernel
    have h3 : (([48, 49, 50, 51, 52, 53, 54, 55, 56, 57] : List UInt8) == []) = false := rfl
    rw [h2, e, h3]
    simp only [Bool.or_self, Bool.false_eq_true, if_false, Option.bind_some]
    rw [trimRight_eq _ _ hl]
    simp only [Option.bind_some]
    rw [trimLeft_eq]
    rfl
  · rw [rdrop_all]
    simp only [List.all_eq_true, digs_isD]
/-- what a digit adds -/
theorem digit_step {b : UInt8} (h : isD b = true) : IntKind.wrap .i64 (IntKind.wrap .u8 ((b.toNat : Int) - 48)) = ((b.toNat - 48 : Nat) : Int) := by
  have := isD_iff.1 h
  rw [wrapU8 (by omega) (by omega), wrap64 (by omega) (by omega)]
  omega
theorem number_loop (s : List UInt8) (k : Int → Option (Int × Bool)) (hl : s.length ≤ 7) : ∀ (n i acc : Nat), i + n = s.length → acc < 10 ^ i →
    ref03_Number_loop1 s k (n + 1) (acc : Int) (i : Int) = if (s.drop i).all isD then k (((s.drop i).foldl dstep acc : Nat) : Int) else some (0, false)
  | 0, i, acc, h, _ => by
    have e : s.drop i = [] := List.drop_eq_nil_of_le (by omega)
    rw [e, ref03_Number_loop1]
    have : decide ((i : Int) < (s.length : Int)) = false := decide_eq_false (by omega)
    rw [if_neg (by rw [this]; decide)]
    rfl
  | n + 1, i, acc, h, ha => by
    have hi : i < s.length := by omega
    have hp : (10 : Nat) ^ i ≤ 1000000 := Nat.le_trans (Nat.pow_le_pow_right (by omega) (show i ≤ 6 by omega)) (by decide)
    rw [List.drop_eq_getElem_cons hi, ref03_Number_loop1]
    have : decide ((i : Int) < (s.length : Int)) = true := decide_eq_true (by omega)
    rw [if_pos this, byteAt_nat, List.getElem?_eq_getElem hi, wrapS (by omega)]
    simp only [Option.bind_some, List.all_cons, List.foldl_cons]
    by_cases hd : isD s[i] = true
    · have hb := isD_iff.1 hd
      have c1 : decide (((s[i]).toNat : Int) < 48) = false := decide_eq_false (by omega)
      have c2 : decide (((s[i]).toNat : Int) > 57) = false := decide_eq_false (by omega)
      have w1 : IntKind.wrap .i64 (10 * (acc : Int)) = 10 * (acc : Int) := wrap64 (by omega) (by omega)
      have w2 : IntKind.wrap .i64 (10 * (acc : Int) + ((s[i].toNat - 48 : Nat) : Int)) = ((dstep acc s[i] : Nat) : Int) := by
        rw [wrap64 (by omega) (by omega)]
        unfold dstep
        omega
      simp only [c1, c2, Bool.false_eq_true, if_false, Option.bind_some, digit_step hd, w1, w2, hd, Bool.true_and]
      refine number_loop s k hl n (i + 1) (dstep acc s[i]) (by omega) ?_
      unfold dstep
      rw [Nat.pow_succ]
      omega
    · have hb : ¬ (48 ≤ s[i].toNat ∧ s[i].toNat ≤ 57) := fun h => hd (isD_iff.2 h)
      have hf : isD s[i] = false := by simpa using hd
      by_cases c1 : ((s[i]).toNat : Int) < 48
      · simp [c1, hf]
      · have c2 : ((s[i]).toNat : Int) > 57 := by omega
        simp [c1, c2, hf]
theorem atoi_loop (s : List UInt8) (k : Int → Option (Int × Unit)) (hl : s.length ≤ 7) (hd : ∀ b ∈ s, isD b = true) : ∀ (n i acc : Nat), i + n = s.length → acc < 10 ^ i →
    internal_strconv_Atoi_loop1 s k (n + 1) (acc : Int) (i : Int) = k (((s.drop i).foldl dstep acc : Nat) : Int)
  | 0, i, acc, h, _ => by
    have e : s.drop i = [] := List.drop_eq_nil_of_le (by omega)
    rw [e, internal_strconv_Atoi_loop1]
    have : decide ((i : Int) < ((bytesI s).length : Int)) = false := decide_eq_false (by simp [bytesI]; omega)
    rw [if_neg (by rw [this]; decide)]
    rfl
  | n + 1, i, acc, h, ha => by
    have hi : i < s.length := by omega
    have hp : (10 : Nat) ^ i ≤ 1000000 := Nat.le_trans (Nat.pow_le_pow_right (by omega) (show i ≤ 6 by omega)) (by decide)
    rw [List.drop_eq_getElem_cons hi, internal_strconv_Atoi_loop1]
    have : decide ((i : Int) < ((bytesI s).length : Int)) = true := decide_eq_true (by simp [bytesI]; omega)
    have e : (bytesI s)[i]? = some ((s[i].toNat : Nat) : Int) := by simp [bytesI, List.getElem?_eq_getElem hi]
    rw [if_pos this, at?_nat, e, wrapS (by omega)]
    have hdi := hd s[i] (List.getElem_mem hi)
    have hb := isD_iff.1 hdi
    have c1 : decide (IntKind.wrap .u8 (((s[i].toNat : Nat) : Int) - 48) > 9) = false := by
      rw [wrapU8 (by omega) (by omega)]
      exact decide_eq_false (by omega)
    have w1 : IntKind.wrap .i64 ((acc : Int) * 10) = (acc : Int) * 10 := wrap64 (by omega) (by omega)
    have w2 : IntKind.wrap .i64 ((acc : Int) * 10 + ((s[i].toNat - 48 : Nat) : Int)) = ((dstep acc s[i] : Nat) : Int) := by
      rw [wrap64 (by omega) (by omega)]
      unfold dstep
      omega
    simp only [Option.bind_some, c1, Bool.false_eq_true, if_false, digit_step hdi, w1, w2, List.foldl_cons]
    refine atoi_loop s k hl hd n (i + 1) (dstep acc s[i]) (by omega) ?_
    unfold dstep
    rw [Nat.pow_succ]
    omega
theorem atoi_eq (s : List UInt8) (hs : s ≠ []) (hl : s.length ≤ 7) (hd : ∀ b ∈ s, isD b = true) : strconv_Atoi s = some (((numV s : Nat) : Int), ()) := by
  obtain ⟨b, r, rfl⟩ := List.exists_cons_of_ne_nil hs
  have hb := isD_iff.1 (hd b (by simp))
  have e0 : byteAt (b :: r) 0 = some b := rfl
  have n45 : ((b.toNat : Int) == 45) = false := by simp; omega
  have n43 : ((b.toNat : Int) == 43) = false := by simp; omega
  have c1 : decide ((0 : Int) < ((b :: r).length : Int)) = true := decide_eq_true (by simp only [List.length_cons]; omega)
  have c2 : decide (((b :: r).length : Int) < 19) = true := decide_eq_true (by simp at hl ⊢; omega)
  have hf : (Int.toNat (((bytesI (b :: r)).length : Int) - 0) + 1) = (b :: r).length + 1 := by simp [bytesI]
  unfold strconv_Atoi internal_strconv_Atoi joinK
  have lp := fun k => atoi_loop (b :: r) k hl hd (b :: r).length 0 0 (by omega) (by simp)
  simp only [List.drop_zero] at lp
  simp only [c1, c2, Bool.and_self, if_true, e0, Option.bind_some, n45, n43, Bool.false_eq_true, if_false, hf]
  have l0 := lp
  rw [show ((0 : Nat) : Int) = 0 from rfl] at l0
  simp only [l0, Option.bind_some]
  rfl
instance (s : List UInt8) : Decidable (noLead s) := by unfold noLead; infer_instance
/-- what number and Number give -/
def numOf (s : List UInt8) : Int × Bool :=
  if s ≠ [] ∧ s.length ≤ 7 ∧ (∀ b ∈ s, isD b = true) ∧ noLead s then (((numV s : Nat) : Int), true) else (0, false)
theorem numOf_yes {s : List UInt8} (h : s ≠ [] ∧ s.length ≤ 7 ∧ (∀ b ∈ s, isD b = true) ∧ noLead s) : numOf s = (((numV s : Nat) : Int), true) := if_pos h
theorem numOf_no {s : List UInt8} (h : ¬ (s ≠ [] ∧ s.length ≤ 7 ∧ (∀ b ∈ s, isD b = true) ∧ noLead s)) : numOf s = (0, false) := if_neg h
theorem lead_eq (s : List UInt8) (hs : s ≠ []) : (noLead s) ↔ ¬ (s[0]? = some 48 ∧ s.length > 1) := by
  unfold noLead
  rw [← List.head?_eq_getElem?]
  constructor
  · rintro (h | h) ⟨h1, h2⟩
    · omega
    · exact h h1
  · intro h
    by_cases h2 : s.length ≤ 1
    · exact .inl h2
    · exact .inr (fun h1 => h ⟨h1, by omega⟩)
theorem ref_number (s : List UInt8) (hl : s.length < 9223372036854775807) : ref03_Number s = some (numOf s) := by
  unfold ref03_Number joinK
  by_cases hs : s = []
  · subst hs; rfl
  · obtain ⟨b, r, rfl⟩ := List.exists_cons_of_ne_nil hs
    have e1 : ((b :: r) == []) = false := rfl
    by_cases h7 : (b :: r).length ≤ 7
    · have c1 : decide (((b :: r).length : Int) > 7) = false := decide_eq_false (by omega)
      have e0 : byteAt (b :: r) 0 = some b := rfl
      simp only [e1, c1, Bool.or_self, Bool.false_eq_true, if_false]
      by_cases hlead : noLead (b :: r)
      · have hc : (if decide (((b :: r).length : Int) > 1) = true then (byteAt (b :: r) 0).bind fun b1 => some ((b1.toNat : Int) == 48) else some false) = some false := by
          by_cases h1 : (b :: r).length > 1
          · rw [if_pos (decide_eq_true (by omega)), e0]
            simp only [Option.bind_some, Option.some.injEq]
            have := (lead_eq (b :: r) hs).1 hlead
            have hne : b ≠ 48 := fun e => this ⟨by rw [e]; rfl, h1⟩
            have : b.toNat ≠ 48 := fun e => hne (UInt8.toNat_inj.1 e)
            simp
            omega
          · rw [if_neg (by rw [decide_eq_true_iff]; omega)]
        rw [hc]
        simp only [Option.bind_some, Bool.false_eq_true, if_false]
        have lp := number_loop (b :: r) (fun i3 => some (i3, true)) h7 (b :: r).length 0 0 (by omega) (by simp)
        rw [List.drop_zero] at lp
        have hf : (Int.toNat (((b :: r).length : Int) - 0) + 1) = (b :: r).length + 1 := by omega
        rw [hf]
        refine (show _ = _ from lp).trans ?_
        by_cases hd : ∀ c ∈ b :: r, isD c = true
        · rw [if_pos (List.all_eq_true.2 hd), numOf_yes ⟨hs, h7, hd, hlead⟩]
          rfl
        · rw [if_neg (fun h => hd (List.all_eq_true.1 h)), numOf_no (fun h => hd h.2.2.1)]
      · have hc : (if decide (((b :: r).length : Int) > 1) = true then (byteAt (b :: r) 0).bind fun b1 => some ((b1.toNat : Int) == 48) else some false) = some true := by
          have : ¬ ¬ ((b :: r)[0]? = some 48 ∧ (b :: r).length > 1) := fun h => hlead ((lead_eq (b :: r) hs).2 h)
          obtain ⟨h1, h2⟩ := Classical.not_not.1 this
          rw [if_pos (decide_eq_true (by omega)), e0]
          simp at h1
          subst h1
          rfl
        rw [hc, numOf_no (fun h => hlead h.2.2.2)]
        rfl
    · have c1 : decide (((b :: r).length : Int) > 7) = true := decide_eq_true (by omega)
      rw [numOf_no (fun h => h7 h.2.1)]
      simp only [e1, c1, Bool.or_true, if_true, Option.bind_some]
theorem number_eq (s : List UInt8) (hl : s.length < 9223372036854775807) : timespan_number s = some (numOf s) := by
  unfold timespan_number
  by_cases hs : s = []
  · subst hs; rfl
  · obtain ⟨t, ht, ht2⟩ := trim_eq s hs hl
    obtain ⟨b, r, rfl⟩ := List.exists_cons_of_ne_nil hs
    have e1 : ((b :: r) == []) = false := rfl
    have e0 : byteAt (b :: r) 0 = some b := rfl
    by_cases h7 : (b :: r).length ≤ 7
    · have c1 : decide (((b :: r).length : Int) > 7) = false := decide_eq_false (by omega)
      simp only [e1, c1, Bool.or_self, Bool.false_eq_true, if_false, ht, Option.bind_some]
      by_cases hd : ∀ c ∈ b :: r, isD c = true
      · have ht0 := ht2.2 hd
        subst ht0
        have z : (!(([] : List UInt8) == [])) = false := rfl
        simp only [z, Bool.false_eq_true, if_false, e0, Option.bind_some]
        by_cases hlead : noLead (b :: r)
        · have := (lead_eq (b :: r) hs).1 hlead
          have hc : (((b.toNat : Int) == 48) && decide (((b :: r).length : Int) > 1)) = false := by
            rw [← Bool.not_eq_true, Bool.and_eq_true]
            rintro ⟨h1, h2⟩
            apply this
            refine ⟨?_, by have := of_decide_eq_true h2; omega⟩
            have h3 : b.toNat = 48 := by have := of_decide_eq_true h1; omega
            have : b = 48 := UInt8.toNat_inj.1 h3
            rw [this]
            rfl
          simp only [hc, Bool.false_eq_true, if_false, atoi_eq (b :: r) hs h7 hd, Option.bind_some]
          rw [numOf_yes ⟨hs, h7, hd, hlead⟩]
        · have : ¬ ¬ ((b :: r)[0]? = some 48 ∧ (b :: r).length > 1) := fun h => hlead ((lead_eq (b :: r) hs).2 h)
          obtain ⟨h1, h2⟩ := Classical.not_not.1 this
          have hc : (((b.toNat : Int) == 48) && decide (((b :: r).length : Int) > 1)) = true := by
            simp at h1
            subst h1
            rw [Bool.and_eq_true]
            exact ⟨rfl, decide_eq_true (by omega)⟩
          simp only [hc, if_true]
          rw [numOf_no (fun h => hlead h.2.2.2)]
      · have hne : t ≠ [] := fun h => hd (ht2.1 h)
        have z : (!(t == [])) = true := by cases t with | nil => exact absurd rfl hne | cons _ _ => rfl
        simp only [z, if_true, Option.bind_some]
        rw [numOf_no (fun h => hd h.2.2.1)]
    · have c1 : decide (((b :: r).length : Int) > 7) = true := decide_eq_true (by omega)
      rw [numOf_no (fun h => h7 h.2.1)]
      simp only [e1, c1, Bool.or_true, if_true, Option.bind_some]
def dd : List UInt8 := [46, 46]
/-- where the two dots stand, or the end -/
def dotsAt (s : List UInt8) : Nat := if 0 ≤ Lib.index s dd then (Lib.index s dd).toNat else s.length
theorem index_cons (b : UInt8) (l : List UInt8) : Lib.index (b :: l) dd = if dd.isPrefixOf (b :: l) then 0 else if Lib.index l dd == -1 then -1 else Lib.index l dd + 1 := rfl
theorem dots_loop (s : List UInt8) (hl : s.length < 9223372036854775000) : ∀ (n i : Nat), i + n + 1 = s.length → ref03_dots_loop1 s (some (s.length : Int)) (n + 1) (i : Int) = some (((i + dotsAt (s.drop i) : Nat) : Int))
  | 0, i, h => by
    have hi : i < s.length := by omega
    rw [ref03_dots_loop1, wrapS (by omega)]
    have : decide (((i + 1 : Nat) : Int) < (s.length : Int)) = false := decide_eq_false (by omega)
    rw [if_neg (by rw [this]; decide)]
    have hn : s.drop (i + 1) = [] := List.drop_eq_nil_of_le (by omega)
    have e : dotsAt (s.drop i) = 1 := by
      rw [List.drop_eq_getElem_cons hi, hn]
      unfold dotsAt
      have : Lib.index [s[i]] dd = -1 := by
        rw [index_cons]
        have : dd.isPrefixOf [s[i]] = false := by simp [dd, List.isPrefixOf]
        rw [this]
        decide
      rw [this]
      simp
    rw [e]
    congr 1
    omega
  | n + 1, i, h => by
    have hi : i < s.length := by omega
    rw [ref03_dots_loop1, wrapS (by omega)]
    have h1 : i + 1 < s.length := by omega
    · have : decide (((i + 1 : Nat) : Int) < (s.length : Int)) = true := decide_eq_true (by omega)
      have d1 := List.drop_eq_getElem_cons hi
      have d2 := List.drop_eq_getElem_cons h1
      rw [if_pos this, byteAt_nat, byteAt_nat, List.getElem?_eq_getElem hi, List.getElem?_eq_getElem h1]
      simp only [Option.bind_some]
      have ih := dots_loop s hl n (i + 1) (by omega)
      have hp : dd.isPrefixOf (s.drop i) = (((s[i].toNat : Int) == 46) && ((s[i + 1].toNat : Int) == 46)) := by
        have q : ∀ c : UInt8, ((46 : UInt8) == c) = ((c.toNat : Int) == 46) := fun c => by
          rw [Bool.eq_iff_iff, beq_iff_eq, beq_iff_eq]
          constructor
          · rintro rfl; rfl
          · intro e
            exact (UInt8.toNat_inj.1 (by have : c.toNat = 46 := by omega
                                         rw [this]; rfl)).symm
        rw [d1, d2]
        simp only [dd, List.isPrefixOf, q, Bool.and_true]
      have hd : dotsAt (s.drop i) = if dd.isPrefixOf (s.drop i) then 0 else dotsAt (s.drop (i + 1)) + 1 := by
        unfold dotsAt
        rw [d1, index_cons, ← d1]
        have hg := Lib.index_ge (s.drop (i + 1)) dd
        by_cases hq : dd.isPrefixOf (s.drop i) = true
        · simp [hq]
        · rw [if_neg hq, if_neg hq]
          by_cases hz : Lib.index (s.drop (i + 1)) dd = -1
          · simp [hz]
            omega
          · have hz' : (Lib.index (s.drop (i + 1)) dd == -1) = false := by simpa using hz
            rw [hz']
            simp only [Bool.false_eq_true, if_false]
            rw [if_pos (by omega), if_pos (by omega)]
            omega
      rw [hd, hp]
      by_cases c1 : ((s[i].toNat : Int) == 46) = true
      · by_cases c2 : ((s[i + 1].toNat : Int) == 46) = true
        · simp [c1, c2]
        · have c2' : ((s[i + 1].toNat : Int) == 46) = false := by simpa using c2
          simp only [c1, c2', if_true, Option.bind_some, Bool.and_false, Bool.false_eq_true, if_false, ih]
          congr 2
          omega
      · have c1' : ((s[i].toNat : Int) == 46) = false := by simpa using c1
        simp only [c1', Option.bind_some, Bool.false_and, Bool.false_eq_true, if_false, ih]
        congr 2
        omega
theorem dots_eq (s : List UInt8) (hl : s.length < 9223372036854775000) : ref03_dots s = some ((dotsAt s : Nat) : Int) := by
  unfold ref03_dots joinK
  by_cases hs : s = []
  · subst hs; decide +kernel
  · have h0 : 0 < s.length := by cases s with | nil => exact absurd rfl hs | cons _ _ => simp
    have hf : (Int.toNat ((s.length : Int) - (IntKind.wrap .i64 (0 + 1))) + 1) = (s.length - 1) + 1 := by rw [wrap0]; omega
    have := dots_loop s hl (s.length - 1) 0 (by omega)
    rw [List.drop_zero, Nat.zero_add] at this
    rw [hf]
    exact this
theorem index_bound : ∀ s : List UInt8, 0 ≤ Lib.index s dd → (Lib.index s dd).toNat + 2 ≤ s.length
  | [], h => by
    have : Lib.index [] dd = -1 := by decide
    rw [this] at h
    omega
  | b :: l, h => by
    rw [index_cons] at h ⊢
    by_cases hp : dd.isPrefixOf (b :: l) = true
    · rw [if_pos hp]
      cases l with
      | nil => simp [dd, List.isPrefixOf] at hp
      | cons c r => simp
    · rw [if_neg hp] at h ⊢
      by_cases hz : (Lib.index l dd == -1) = true
      · rw [if_pos hz] at h
        omega
      · rw [if_neg hz] at h ⊢
        have hg := Lib.index_ge l dd
        have hne : Lib.index l dd ≠ -1 := by simpa using hz
        have := index_bound l (by omega)
        simp only [List.length_cons]
        omega
/-- the parts of a text: before the dots, behind them, whether there are any -/
theorem cut_dots (s : List UInt8) : Lib.cut s dd = (s.take (dotsAt s), s.drop (dotsAt s + 2), decide (dotsAt s < s.length)) ∧ (dotsAt s < s.length → dotsAt s + 2 ≤ s.length) ∧ dotsAt s ≤ s.length := by
  unfold Lib.cut dotsAt
  by_cases h : 0 ≤ Lib.index s dd
  · have hb := index_bound s h
    rw [if_pos h, if_pos h]
    refine ⟨?_, fun _ => hb, by omega⟩
    have : decide ((Lib.index s dd).toNat < s.length) = true := decide_eq_true (by omega)
    rw [this]
    rfl
  · rw [if_neg h, if_neg h]
    refine ⟨?_, fun h => by omega, Nat.le_refl _⟩
    have : decide (s.length < s.length) = false := decide_eq_false (by omega)
    rw [this, List.take_length, List.drop_eq_nil_of_le (by omega)]
/-- what Parse gives -/
def parseOf (s : List UInt8) : Option (Span × Int) :=
  if s.length > 24 ∨ (numOf (s.take (dotsAt s))).2 = false ∨ (dotsAt s < s.length ∧ (numOf (s.drop (dotsAt s + 2))).2 = false) then some (⟨0, 0⟩, 4)
  else (ref03_Of (numOf (s.take (dotsAt s))).1 (if dotsAt s < s.length then (numOf (s.drop (dotsAt s + 2))).1 else (numOf (s.take (dotsAt s))).1)).bind fun r =>
    if r.2 = 0 ∧ dotsAt s < s.length ∧ (numOf (s.take (dotsAt s))).1 = (numOf (s.drop (dotsAt s + 2))).1 then some (⟨0, 0⟩, 3) else some r
theorem parse_eq (s : List UInt8) : timespan_Parse s = parseOf s := by
  obtain ⟨h1, h2, h3⟩ := cut_dots s
  unfold timespan_Parse joinK
  by_cases hc : s.length > 24
  · rw [if_pos (decide_eq_true (by omega))]
    unfold parseOf
    rw [if_pos (.inl hc)]
  · rw [if_neg (by rw [decide_eq_true_iff]; omega)]
    have hcut : cutS s [46, 46] = some (s.take (dotsAt s), s.drop (dotsAt s + 2), decide (dotsAt s < s.length)) := by
      unfold cutS
      rw [if_pos (by omega)]
      exact congrArg some h1
    rw [hcut]
    simp only [Option.bind_some]
    rw [number_eq _ (by simp; omega)]
    simp only [Option.bind_some]
    unfold parseOf
    by_cases hb : dotsAt s < s.length
    · rw [if_pos (decide_eq_true hb), number_eq _ (by simp; omega)]
      simp only [Option.bind_some, hb, true_and, decide_true, Bool.and_true, if_true]
      by_cases n1 : (numOf (s.take (dotsAt s))).2 = true
      · by_cases n2 : (numOf (s.drop (dotsAt s + 2))).2 = true
        · rw [if_neg (by rw [n1, n2]; decide), if_neg (by rw [n1, n2]; rintro (h | h | h) <;> first | omega | cases h), of_eq]
          congr 1
          funext r
          by_cases hr : r.2 = 0
          · by_cases he : (numOf (s.take (dotsAt s))).1 = (numOf (s.drop (dotsAt s + 2))).1
            · simp [hr, he]
            · simp [hr, he]
              exact Prod.ext rfl hr.symm
          · simp [hr]
        · have n2' : (numOf (s.drop (dotsAt s + 2))).2 = false := by simpa using n2
          rw [if_pos (by rw [n2']; simp), if_pos (.inr (.inr n2'))]
      · have n1' : (numOf (s.take (dotsAt s))).2 = false := by simpa using n1
        rw [if_pos (by rw [n1']; simp), if_pos (.inr (.inl n1'))]
    · rw [if_neg (by rw [decide_eq_true_iff]; exact hb)]
      simp only [hb, false_and, decide_false, Bool.and_false, if_false, Bool.not_true, Bool.or_false, Bool.false_and, Bool.false_eq_true, and_false, or_false]
      by_cases n1 : (numOf (s.take (dotsAt s))).2 = true
      · rw [if_neg (by rw [n1]; decide), if_neg (by rw [n1]; rintro (h | h) <;> first | omega | cases h), of_eq]
      · have n1' : (numOf (s.take (dotsAt s))).2 = false := by simpa using n1
        rw [if_pos (by rw [n1']; rfl), if_pos (.inr n1')]
theorem ref_parse_eq (s : List UInt8) (hl : s.length ≤ 2000000) : ref03_Parse s = parseOf s := by
  obtain ⟨h1, h2, h3⟩ := cut_dots s
  unfold ref03_Parse joinK
  rw [dots_eq s (by omega)]
  simp only [Option.bind_some]
  have c1 : cut s 0 ((dotsAt s : Nat) : Int) = some (s.take (dotsAt s)) := by
    have := cut_nat s 0 (dotsAt s) (by omega) h3
    simpa using this
  rw [c1]
  simp only [Option.bind_some]
  rw [ref_number _ (by simp; omega)]
  simp only [Option.bind_some]
  have hlt : decide (((dotsAt s : Nat) : Int) < (s.length : Int)) = decide (dotsAt s < s.length) := by
    rw [Bool.eq_iff_iff, decide_eq_true_iff, decide_eq_true_iff]; omega
  have hgt : decide ((s.length : Int) > 24) = decide (s.length > 24) := by
    rw [Bool.eq_iff_iff, decide_eq_true_iff, decide_eq_true_iff]; omega
  rw [hlt, hgt]
  unfold parseOf
  by_cases hb : dotsAt s < s.length
  · have c2 : cut s (IntKind.wrap .i64 (((dotsAt s : Nat) : Int) + 2)) (s.length : Int) = some (s.drop (dotsAt s + 2)) := by
      have := cut_nat s (dotsAt s + 2) s.length (h2 hb) (Nat.le_refl _)
      rw [wrap64 (by omega) (by omega)]
      have e : (((dotsAt s : Nat) : Int) + 2) = ((dotsAt s + 2 : Nat) : Int) := by omega
      rw [e, this, List.take_of_length_le (by simp)]
    rw [if_pos (decide_eq_true hb), c2]
    simp only [Option.bind_some]
    rw [ref_number _ (by simp; omega)]
    simp only [Option.bind_some, hb, true_and, decide_true, Bool.and_true, if_true]
    by_cases hc : s.length > 24
    · simp [hc]
    · by_cases n1 : (numOf (s.take (dotsAt s))).2 = true
      · by_cases n2 : (numOf (s.drop (dotsAt s + 2))).2 = true
        · rw [if_neg (by rw [n1, n2, decide_eq_false hc]; decide), if_neg (by rw [n1, n2]; rintro (h | h | h) <;> first | omega | cases h)]
          congr 1
          funext r
          by_cases hr : r.2 = 0
          · by_cases he : (numOf (s.take (dotsAt s))).1 = (numOf (s.drop (dotsAt s + 2))).1
            · simp [hr, he]
            · simp [hr, he]
              exact Prod.ext rfl hr.symm
          · simp [hr]
        · have n2' : (numOf (s.drop (dotsAt s + 2))).2 = false := by simpa using n2
          rw [if_pos (by rw [n2']; simp), if_pos (.inr (.inr n2'))]
      · have n1' : (numOf (s.take (dotsAt s))).2 = false := by simpa using n1
        rw [if_pos (by rw [n1']; simp), if_pos (.inr (.inl n1'))]
  · rw [if_neg (by rw [decide_eq_true_iff]; exact hb)]
    simp only [hb, false_and, decide_false, Bool.and_false, if_false, Bool.not_true, Bool.or_false, Bool.false_and, Bool.false_eq_true, and_false, or_false]
    by_cases hc : s.length > 24
    · simp [hc]
    · by_cases n1 : (numOf (s.take (dotsAt s))).2 = true
      · rw [if_neg (by rw [n1, decide_eq_false hc]; decide), if_neg (by rw [n1]; rintro (h | h) <;> first | omega | cases h)]
      · have n1' : (numOf (s.take (dotsAt s))).2 = false := by simpa using n1
        rw [if_pos (by rw [n1']; simp), if_pos (.inr n1')]
theorem parse_tot (s : List UInt8) : ∃ r, parseOf s = some r := by
  unfold parseOf
  apply ite_tot ⟨_, rfl⟩
  obtain ⟨r, h⟩ := of_tot (numOf (s.take (dotsAt s))).1 (if dotsAt s < s.length then (numOf (s.drop (dotsAt s + 2))).1 else (numOf (s.take (dotsAt s))).1)
  rw [h]
  exact ite_tot ⟨_, rfl⟩ ⟨_, rfl⟩
theorem law_Texts (a : Span) (s : List UInt8) : law03_TimespanTexts a s = some true := by
  unfold law03_TimespanTexts
  by_cases hl : (s.length : Int) > 2000
  · rw [if_pos (decide_eq_true hl), awake_true]
    rfl
  · rw [if_neg (by rw [decide_eq_true_iff]; exact hl)]
    obtain ⟨r, h1, h2⟩ := format_eq a
    obtain ⟨q, h3⟩ := parse_tot s
    rw [h1, h2, parse_eq s, ref_parse_eq s (by omega), h3]
    simp [awake_true]
theorem no_dot {b : UInt8} (h : isD b = true) : ((46 : UInt8) == b) = false := by
  have := isD_iff.1 h
  rw [← Bool.not_eq_true, beq_iff_eq]
  rintro rfl
  have : (46 : UInt8).toNat = 46 := rfl
  omega
theorem index_digits : ∀ t : List UInt8, (∀ b ∈ t, isD b = true) → Lib.index t dd = -1
  | [], _ => by decide
  | b :: r, h => by
    have h1 := index_digits r (fun c hc => h c (List.mem_cons_of_mem _ hc))
    rw [index_cons, h1]
    have : dd.isPrefixOf (b :: r) = false := by simp [dd, List.isPrefixOf, no_dot (h b (by simp))]
    rw [this]
    rfl
theorem index_dots (r : List UInt8) : ∀ t : List UInt8, (∀ b ∈ t, isD b = true) → Lib.index (t ++ 46 :: 46 :: r) dd = (t.length : Int)
  | [], _ => by
    rw [List.nil_append, index_cons]
    have : dd.isPrefixOf (46 :: 46 :: r) = true := by simp [dd, List.isPrefixOf]
    rw [this]
    rfl
  | b :: t, h => by
    have h1 := index_dots r t (fun c hc => h c (List.mem_cons_of_mem _ hc))
    rw [List.cons_append, index_cons, h1]
    have : dd.isPrefixOf (b :: (t ++ 46 :: 46 :: r)) = false := by simp [dd, List.isPrefixOf, no_dot (h b (by simp))]
    rw [this]
    have h2 : ((t.length : Int) == -1) = false := by rw [← Bool.not_eq_true, beq_iff_eq]; omega
    rw [h2]
    simp
theorem numOf_dec {n : Nat} (h : n ≤ 1000000) : numOf (Lib.decDigits n) = ((n : Int), true) := by
  rw [numOf_yes ⟨dec_ne n, dec7 h, dec_all n, dec_lead n⟩, dec_val]
theorem of_ok {a : Span} (h : Ok a) : ref03_Of a.low a.high = some (a, 0) := by
  unfold ref03_Of
  rw [check_ok h]
  rfl
theorem read_back {a : Span} (h : Ok a) : parseOf (fmt a) = some (a, 0) := by
  obtain ⟨l0, l1, h0, h1, lh⟩ := h
  have h : Ok a := ⟨l0, l1, h0, h1, lh⟩
  have n1 := dec7 (n := a.low.toNat) (by omega)
  have n2 := dec7 (n := a.high.toNat) (by omega)
  have v1 := numOf_dec (n := a.low.toNat) (by omega)
  have v2 := numOf_dec (n := a.high.toNat) (by omega)
  rw [Int.toNat_of_nonneg l0] at v1
  rw [Int.toNat_of_nonneg h0] at v2
  unfold fmt
  by_cases hc : a.high > a.low
  · rw [if_pos hc]
    have hi := index_dots (Lib.decDigits a.high.toNat) (Lib.decDigits a.low.toNat) (dec_all _)
    have hd : dotsAt (Lib.decDigits a.low.toNat ++ 46 :: 46 :: Lib.decDigits a.high.toNat) = (Lib.decDigits a.low.toNat).length := by
      unfold dotsAt
      rw [hi, if_pos (by omega)]
      simp
    have e1 : (Lib.decDigits a.low.toNat ++ 46 :: 46 :: Lib.decDigits a.high.toNat).take (Lib.decDigits a.low.toNat).length = Lib.decDigits a.low.toNat := List.take_left
    have e2 : (Lib.decDigits a.low.toNat ++ 46 :: 46 :: Lib.decDigits a.high.toNat).drop ((Lib.decDigits a.low.toNat).length + 2) = Lib.decDigits a.high.toNat := by
      rw [List.drop_append]
      have : (Lib.decDigits a.low.toNat).drop ((Lib.decDigits a.low.toNat).length + 2) = [] := List.drop_eq_nil_of_le (by omega)
      rw [this]
      simp
    have hlt : (Lib.decDigits a.low.toNat).length < (Lib.decDigits a.low.toNat ++ 46 :: 46 :: Lib.decDigits a.high.toNat).length := by simp
    unfold parseOf
    rw [hd, e1, e2, v1, v2, if_neg (by simp; omega), if_pos hlt, of_ok h]
    simp only [Option.bind_some]
    rw [if_neg (by rintro ⟨_, _, h⟩; omega)]
  · rw [if_neg hc]
    have he : a.high = a.low := by omega
    have hd : dotsAt (Lib.decDigits a.low.toNat) = (Lib.decDigits a.low.toNat).length := by
      unfold dotsAt
      rw [index_digits _ (dec_all _), if_neg (by omega)]
    have h' := of_ok h
    rw [he] at h'
    unfold parseOf
    rw [hd, List.take_length, v1, if_neg (by simp; omega), if_neg (by omega), h']
    simp only [Option.bind_some]
    rw [if_neg (by rintro ⟨_, h, _⟩; omega)]
theorem index_split : ∀ s : List UInt8, 0 ≤ Lib.index s dd → s = s.take (Lib.index s dd).toNat ++ 46 :: 46 :: s.drop ((Lib.index s dd).toNat + 2)
  | [], h => by
    have : Lib.index [] dd = -1 := by decide
    rw [this] at h
    omega
  | b :: l, h => by
    rw [index_cons] at h ⊢
    by_cases hp : dd.isPrefixOf (b :: l) = true
    · rw [if_pos hp]
      cases l with
      | nil => simp [dd, List.isPrefixOf] at hp
      | cons c r =>
        simp [dd, List.isPrefixOf] at hp
        obtain ⟨rfl, rfl⟩ := hp
        simp
    · rw [if_neg hp] at h ⊢
      by_cases hz : (Lib.index l dd == -1) = true
      · rw [if_pos hz] at h
        omega
      · rw [if_neg hz] at h ⊢
        have hg := Lib.index_ge l dd
        have hne : Lib.index l dd ≠ -1 := by simpa using hz
        have := index_split l (by omega)
        have e1 : (Lib.index l dd + 1).toNat = (Lib.index l dd).toNat + 1 := by omega
        rw [e1, List.take_succ_cons, List.cons_append]
        have e2 : (Lib.index l dd).toNat + 1 + 2 = ((Lib.index l dd).toNat + 2) + 1 := by omega
        rw [e2, List.drop_succ_cons, ← this]
theorem numOf_inv {s : List UInt8} (h : (numOf s).2 = true) : 0 ≤ (numOf s).1 ∧ Lib.decDigits (numOf s).1.toNat = s := by
  by_cases hc : s ≠ [] ∧ s.length ≤ 7 ∧ (∀ b ∈ s, isD b = true) ∧ noLead s
  · rw [numOf_yes hc]
    refine ⟨by simp, ?_⟩
    simp only [Int.toNat_natCast]
    exact dec_of_num s hc.1 hc.2.2.1 hc.2.2.2
  · rw [numOf_no hc] at h
    cases h
theorem of_inv {x y : Int} {r : Span × Int} (h : ref03_Of x y = some r) (h0 : r.2 = 0) : Ok ⟨x, y⟩ ∧ r.1 = ⟨x, y⟩ := by
  obtain ⟨q, h1, h2⟩ := check_some ⟨x, y⟩
  unfold ref03_Of at h
  rw [h1] at h
  by_cases hq : q = 0
  · simp [hq] at h
    subst h
    exact ⟨h2.1 hq, rfl⟩
  · simp [hq] at h
    subst h
    exact absurd h0 hq
theorem parse_inv {s : List UInt8} {r : Span × Int} (h : parseOf s = some r) (h0 : r.2 = 0) : Ok r.1 ∧ fmt r.1 = s := by
  unfold parseOf at h
  by_cases hc : s.length > 24 ∨ (numOf (s.take (dotsAt s))).2 = false ∨ (dotsAt s < s.length ∧ (numOf (s.drop (dotsAt s + 2))).2 = false)
  · rw [if_pos hc] at h
    cases h
    cases h0
  · rw [if_neg hc] at h
    have n1 : (numOf (s.take (dotsAt s))).2 = true := by
      cases hh : (numOf (s.take (dotsAt s))).2 with
      | true => rfl
      | false => exact absurd (.inr (.inl hh)) hc
    obtain ⟨q, hq, h⟩ := Option.bind_eq_some_iff.1 h
    by_cases hb : dotsAt s < s.length
    · have n2 : (numOf (s.drop (dotsAt s + 2))).2 = true := by
        cases hh : (numOf (s.drop (dotsAt s + 2))).2 with
        | true => rfl
        | false => exact absurd (.inr (.inr ⟨hb, hh⟩)) hc
      rw [if_pos hb] at hq
      by_cases he : q.2 = 0 ∧ dotsAt s < s.length ∧ (numOf (s.take (dotsAt s))).1 = (numOf (s.drop (dotsAt s + 2))).1
      · rw [if_pos he] at h
        cases h
        cases h0
      · rw [if_neg he] at h
        cases h
        obtain ⟨ok, e⟩ := of_inv hq h0
        have hne : (numOf (s.take (dotsAt s))).1 ≠ (numOf (s.drop (dotsAt s + 2))).1 := fun hh => he ⟨h0, hb, hh⟩
        have hlt := ok.lh
        simp only at hlt
        rw [e]
        refine ⟨ok, ?_⟩
        unfold fmt
        rw [if_pos (by simp only; omega)]
        simp only
        rw [(numOf_inv n1).2, (numOf_inv n2).2]
        have hi : 0 ≤ Lib.index s dd := by
          unfold dotsAt at hb
          by_cases hi : 0 ≤ Lib.index s dd
          · exact hi
          · rw [if_neg hi] at hb
            omega
        have := index_split s hi
        unfold dotsAt
        rw [if_pos hi]
        exact this.symm
    · rw [if_neg hb] at hq
      rw [if_neg (fun hh => hb hh.2.1)] at h
      cases h
      obtain ⟨ok, e⟩ := of_inv hq h0
      rw [e]
      refine ⟨ok, ?_⟩
      unfold fmt
      rw [if_neg (by simp only; omega)]
      simp only
      rw [(numOf_inv n1).2]
      have := (cut_dots s).2.2
      rw [List.take_of_length_le (by omega)]
theorem law_Reads (a : Span) (s : List UInt8) : law03_TimespanReads a s = some true := by
  unfold law03_TimespanReads joinK
  have e2 : ((timespan_Parse s).bind fun r3 => if (r3.2 == 0) = true then (timespan_Format r3.1).bind fun r4 => if ((r4.2 != 0) || (!(r4.1 == s))) = true then some false else ((law03_awake).bind fun r5 => some r5) else ((law03_awake).bind fun r5 => some r5)) = some true := by
    obtain ⟨q, h3⟩ := parse_tot s
    rw [parse_eq, h3]
    simp only [Option.bind_some]
    by_cases h0 : q.2 = 0
    · obtain ⟨ok, hf⟩ := parse_inv h3 h0
      rw [(format_ok ok).1, hf]
      simp [h0, awake_true]
    · simp [h0, awake_true]
  obtain ⟨r, h1, h2⟩ := format_eq a
  obtain ⟨c, hc, hc2⟩ := check_some a
  by_cases hok : Ok a
  · rw [(format_ok hok).1]
    simp only [Option.bind_some, beq_self_eq_true, if_true, parse_eq (fmt a), read_back hok, bne_self_eq_false, Bool.not_true, Bool.or_self, Bool.false_eq_true, if_false]
    exact e2
  · have hr : (r.2 == 0) = false := by
      have hne : c ≠ 0 := fun h => hok (hc2.1 h)
      unfold ref03_Format at h2
      rw [hc] at h2
      simp [hne] at h2
      subst h2
      simpa using hne
    rw [h1]
    simp only [Option.bind_some, hr, Bool.false_eq_true, if_false]
    exact e2
end Go.Proofs.YtllhdlnnlckceaaDoor.W
