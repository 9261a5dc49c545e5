/- Decimal numerals as lists of bytes: plain lists, no program. -/
import Derived.Test.YtbhcojijafbdiaaGreatDoorLibG
import Derived.Lib.ItoaNum
import Derived.Lib.IndexMore
set_option linter.unusedVariables false
set_option linter.unusedSimpArgs false
namespace Go.Proofs.YtbhcojijafbdiaaGreatDoor.W
open Go
theorem snoc_ind {α : Type} {p : List α → Prop} (h0 : p []) (h1 : ∀ t b, p t → p (t ++ [b])) : ∀ s, p s := fun s => by
  have : ∀ r : List α, p r.reverse := fun r => by
    induction r with
    | nil => exact h0
    | cons b r ih => rw [List.reverse_cons]; exact h1 _ _ ih
  have h := this s.reverse
  rwa [List.reverse_reverse] at h
def isD (b : UInt8) : Bool := decide (48 ≤ b.toNat) && decide (b.toNat ≤ 57)
theorem isD_iff {b : UInt8} : isD b = true ↔ 48 ≤ b.toNat ∧ b.toNat ≤ 57 := by simp [isD]
def dstep (a : Nat) (b : UInt8) : Nat := a * 10 + (b.toNat - 48)
def numV (s : List UInt8) : Nat := s.foldl dstep 0
theorem numV_snoc (s : List UInt8) (b : UInt8) : numV (s ++ [b]) = numV s * 10 + (b.toNat - 48) := by simp [numV, dstep]
theorem dig (n : Nat) (h : n < 10) : (UInt8.ofNat (48 + n)).toNat = 48 + n := by
  rw [UInt8.toNat_ofNat']
  omega
theorem dec_small {n : Nat} (h : n < 10) : Lib.decDigits n = [UInt8.ofNat (48 + n)] := by rw [Lib.decDigits, dif_pos h]
theorem dec_big {n : Nat} (h : ¬ n < 10) : Lib.decDigits n = Lib.decDigits (n / 10) ++ [UInt8.ofNat (48 + n % 10)] := by rw [Lib.decDigits, dif_neg h]
theorem dec_ne (n : Nat) : Lib.decDigits n ≠ [] := by
  by_cases h : n < 10
  · rw [dec_small h]; simp
  · rw [dec_big h]; simp
theorem dec_all (n : Nat) : ∀ b ∈ Lib.decDigits n, isD b = true := by
  induction n using Nat.strongRecOn with
  | ind n ih =>
    intro b hb
    by_cases h : n < 10
    · rw [dec_small h] at hb
      rw [List.mem_singleton] at hb
      subst hb
      rw [isD_iff, dig n h]
      omega
    · rw [dec_big h, List.mem_append] at hb
      rcases hb with hb | hb
      · exact ih (n / 10) (by omega) b hb
      · rw [List.mem_singleton] at hb
        subst hb
        rw [isD_iff, dig _ (by omega)]
        omega
theorem dec_val (n : Nat) : numV (Lib.decDigits n) = n := by
  induction n using Nat.strongRecOn with
  | ind n ih =>
    by_cases h : n < 10
    · rw [dec_small h]
      simp only [numV, List.foldl_cons, List.foldl_nil, dstep, dig n h]
      omega
    · rw [dec_big h, numV_snoc, ih (n / 10) (by omega), dig _ (by omega)]
      omega
theorem dec_len : ∀ (k n : Nat), n < 10 ^ (k + 1) → (Lib.decDigits n).length ≤ k + 1
  | 0, n, h => by rw [dec_small (by simpa using h)]; simp
  | k + 1, n, h => by
    by_cases h' : n < 10
    · rw [dec_small h']; simp
    · rw [dec_big h', List.length_append]
      have := dec_len k (n / 10) (by rw [Nat.pow_succ] at h; omega)
      simp
      omega
/-- no zero ahead of other digits -/
def noLead (s : List UInt8) : Prop := s.length ≤ 1 ∨ s.head? ≠ some 48
theorem dec_lead (n : Nat) : noLead (Lib.decDigits n) := by
  induction n using Nat.strongRecOn with
  | ind n ih =>
    by_cases h : n < 10
    · rw [dec_small h]; left; simp
    · right
      rw [dec_big h]
      obtain ⟨c, r, hc⟩ := List.exists_cons_of_ne_nil (dec_ne (n / 10))
      rw [hc]
      simp only [List.cons_append, List.head?_cons]
      rcases ih (n / 10) (by omega) with h1 | h1
      · by_cases h2 : n / 10 < 10
        · rw [dec_small h2] at hc
          cases hc
          intro e
          have e' := congrArg UInt8.toNat (Option.some.inj e)
          rw [dig _ h2] at e'
          have : (48 : UInt8).toNat = 48 := rfl
          omega
        · rw [dec_big h2] at h1
          obtain ⟨c2, r2, hc2⟩ := List.exists_cons_of_ne_nil (dec_ne (n / 10 / 10))
          rw [hc2] at h1
          simp at h1
      · rw [hc] at h1
        simpa using h1
theorem foldl_mono : ∀ (s : List UInt8) (a : Nat), a ≤ s.foldl dstep a
  | [], a => Nat.le_refl _
  | b :: r, a => Nat.le_trans (by unfold dstep; omega) (foldl_mono r (dstep a b))
theorem numV_pos {b : UInt8} {r : List UInt8} (h : 49 ≤ b.toNat) : 1 ≤ numV (b :: r) := by
  unfold numV
  rw [List.foldl_cons]
  exact Nat.le_trans (by unfold dstep; omega) (foldl_mono r _)
theorem numV_lt : ∀ (s : List UInt8), (∀ b ∈ s, isD b = true) → numV s < 10 ^ s.length := by
  refine snoc_ind (fun _ => by simp [numV]) (fun t b ih => ?_)
  · intro h
    have h1 := ih (fun c hc => h c (List.mem_append_left _ hc))
    have h2 := isD_iff.1 (h b (by simp))
    rw [numV_snoc, List.length_append, List.length_singleton, Nat.pow_succ]
    omega
/-- A numeral without zeros ahead is the one of its value. -/
theorem dec_of_num : ∀ (s : List UInt8), s ≠ [] → (∀ b ∈ s, isD b = true) → noLead s → Lib.decDigits (numV s) = s := by
  refine snoc_ind (fun h => absurd rfl h) (fun t b ih => ?_)
  · intro _ hd hl
    have hb := isD_iff.1 (hd b (by simp))
    have hv := numV_snoc t b
    have e0 : UInt8.ofNat (48 + (b.toNat - 48)) = b := by
      apply UInt8.toNat_inj.1
      rw [dig _ (by omega)]
      omega
    cases t with
    | nil =>
      rw [hv]
      simp only [numV, List.foldl_nil, List.nil_append, Nat.zero_mul, Nat.zero_add]
      rw [dec_small (by omega), e0]
    | cons c r =>
      have hc := isD_iff.1 (hd c (by simp))
      have hne : c ≠ 48 := by
        rcases hl with h | h
        · simp at h
        · intro e; subst e; simp at h
      have hc49 : 49 ≤ c.toNat := by
        have : c.toNat ≠ 48 := fun e => hne (UInt8.toNat_inj.1 e)
        omega
      have hp := numV_pos (r := r) hc49
      have hi := ih (by simp) (fun x hx => hd x (List.mem_append_left _ hx)) (by
        right
        simp only [List.head?_cons]
        intro e
        exact hne (Option.some.inj e))
      rw [hv, dec_big (by omega)]
      have d1 : (numV (c :: r) * 10 + (b.toNat - 48)) / 10 = numV (c :: r) := by omega
      have d2 : (numV (c :: r) * 10 + (b.toNat - 48)) % 10 = b.toNat - 48 := by omega
      rw [d1, d2, hi, e0]
end Go.Proofs.YtbhcojijafbdiaaGreatDoor.W
