/- Plain laws of a line's fields: the reference's Fields. No program in sight. -/
import Derived.Test.YtmfphbdafgmplaaDoorWords
set_option linter.unusedVariables false
set_option linter.unusedSimpArgs false
set_option maxHeartbeats 2000000
namespace Go.Proofs.YtmfphbdafgmplaaDoor.W
open Go Go.RowKit
def joinT : List (List UInt8) → List UInt8
  | [] => []
  | a :: r => if r = [] then a else a ++ 32 :: joinT r
def fieldsGo (last : List UInt8) (acc : List (List UInt8)) : List UInt8 → List (List UInt8)
  | [] => if last = [] then acc else acc ++ [last]
  | b :: r => if b = 32 then fieldsGo [] (if last = [] then acc else acc ++ [last]) r else fieldsGo (last ++ [b]) acc r
theorem fields_len : ∀ (r last : List UInt8) (acc : List (List UInt8)) (n : Nat), (∀ t ∈ acc, t.length ≤ n) → last.length + r.length ≤ n → ∀ t ∈ fieldsGo last acc r, t.length ≤ n
  | [], last, acc, n, h, hl, t, ht => by
    rw [fieldsGo] at ht
    split at ht
    · exact h t ht
    · rcases List.mem_append.1 ht with ht | ht
      · exact h t ht
      · rw [List.mem_singleton.1 ht]; simp at hl; omega
  | b :: r, last, acc, n, h, hl, t, ht => by
    rw [List.length_cons] at hl
    rw [fieldsGo] at ht
    split at ht
    · refine fields_len r [] _ n (fun u hu => ?_) (by simp; omega) t ht
      split at hu
      · exact h u hu
      · rcases List.mem_append.1 hu with hu | hu
        · exact h u hu
        · rw [List.mem_singleton.1 hu]; omega
    · exact fields_len r (last ++ [b]) acc n h (by simp; omega) t ht
theorem fields_loop (s : List UInt8) (k : List (List UInt8) → Option (List (List UInt8))) (hb : s.length ≤ 1000000) : ∀ (r pre last : List UInt8) (acc : List (List UInt8)), s = pre ++ r → last.length ≤ pre.length → acc.length ≤ pre.length →
    ref12_Fields_loop1 s k (r.length + 2) last (pre.length : Int) acc = k (fieldsGo last acc r)
  | [], pre, last, acc, e, h1, h2 => by
    have hlen : s.length = pre.length := by rw [e]; simp
    have c1 : decide ((pre.length : Int) ≤ (s.length : Int)) = true := decide_eq_true (by omega)
    have c2 : decide ((pre.length : Int) < (s.length : Int)) = false := decide_eq_false (by omega)
    have c3 : decide (IntKind.wrap .i64 ((pre.length : Int) + 1) ≤ (s.length : Int)) = false := by
      rw [wrap64 (by omega) (by omega)]; exact decide_eq_false (by omega)
    rw [List.length_nil]
    unfold ref12_Fields_loop1 joinK
    simp only [c1, c2, if_true, Bool.false_eq_true, if_false, Option.bind_some]
    rw [fieldsGo]
    by_cases hl : last = []
    · subst hl
      simp [ref12_Fields_loop1, c3]
    · have q : (!(last == [])) = true := by simpa using hl
      rw [if_pos q, if_neg hl, appO_ok (by simp; omega) (by decide), Option.bind_some]
      simp [ref12_Fields_loop1, c3]
  | b :: r, pre, last, acc, e, h1, h2 => by
    have hlen : s.length = pre.length + (r.length + 1) := by rw [e]; simp
    have c1 : decide ((pre.length : Int) ≤ (s.length : Int)) = true := decide_eq_true (by omega)
    have c2 : decide ((pre.length : Int) < (s.length : Int)) = true := decide_eq_true (by omega)
    have hby : byteAt s (pre.length : Int) = some b := by rw [e]; exact byteAt_mid
    have w : IntKind.wrap .i64 ((pre.length : Int) + 1) = (((pre ++ [b]).length : Nat) : Int) := by rw [wrap64 (by omega) (by omega)]; simp
    have hc : cut s (pre.length : Int) (((pre ++ [b]).length : Nat) : Int) = some [b] := by
      unfold cut
      rw [if_pos ⟨by omega, by simp only [List.length_append, List.length_singleton]; omega, by simp only [List.length_append, List.length_singleton]; omega⟩, e]
      simp
    have c4 : ((b.toNat : Int) != 32) = !(decide (b = 32)) := by
      rw [Bool.eq_iff_iff, bne_iff_ne, Bool.not_eq_true', decide_eq_false_iff_not]
      constructor
      · intro h q; rw [q] at h; exact h rfl
      · intro h q; exact h (UInt8.toNat_inj.1 (by have : (32 : UInt8).toNat = 32 := rfl; omega))
    rw [List.length_cons]
    unfold ref12_Fields_loop1 joinK
    simp only [c1, c2, if_true, hby, Option.bind_some, c4, w, hc]
    rw [fieldsGo]
    by_cases h32 : b = 32
    · simp only [h32, decide_true, Bool.not_true, Bool.false_eq_true, if_false, if_true]
      subst h32
      by_cases hl : last = []
      · subst hl
        simp only [BEq.rfl, Bool.not_true, Bool.false_eq_true, if_false, if_true]
        exact fields_loop s k hb r (pre ++ [32]) [] acc (by rw [e, mid_cons]) (by simp) (by simp; omega)
      · have q : (!(last == [])) = true := by simpa using hl
        rw [if_pos q, if_neg hl, appO_ok (by simp; omega) (by decide), Option.bind_some]
        exact fields_loop s k hb r (pre ++ [32]) [] (acc ++ [last]) (by rw [e, mid_cons]) (by simp) (by simp; omega)
    · simp only [decide_eq_false h32, Bool.not_false, if_true, if_neg h32]
      rw [catO_small (by simp; omega), Option.bind_some]
      exact fields_loop s k hb r (pre ++ [b]) (last ++ [b]) acc (by rw [e, mid_cons]) (by simp; omega) (by simp; omega)
theorem fields_eq (s : List UInt8) (hb : s.length ≤ 1000000) : ref12_Fields s = some (fieldsGo [] [] s) := by
  unfold ref12_Fields joinK
  have := fields_loop s (fun l5 => some l5) hb s [] [] [] rfl (by simp) (by simp)
  simpa using this
theorem fields_run (acc : List (List UInt8)) (r : List UInt8) : ∀ (a last : List UInt8), (32 : UInt8) ∉ a → fieldsGo last acc (a ++ r) = fieldsGo (last ++ a) acc r
  | [], last, _ => by simp
  | b :: a, last, h => by
    have hb : b ≠ 32 := fun q => h (by rw [q]; simp)
    have ha : (32 : UInt8) ∉ a := fun q => h (by simp [q])
    rw [List.cons_append, fieldsGo, if_neg hb, fields_run acc r a (last ++ [b]) ha]
    simp
theorem fields_join : ∀ (l acc : List (List UInt8)), (∀ t ∈ l, (32 : UInt8) ∉ t ∧ t ≠ []) → fieldsGo [] acc (joinT l) = acc ++ l
  | [], acc, _ => by simp [joinT, fieldsGo]
  | [a], acc, h => by
    obtain ⟨h1, h2⟩ := h a (by simp)
    have := fields_run acc [] a [] h1
    rw [joinT, if_pos rfl]
    rw [List.append_nil] at this
    rw [this, List.nil_append, fieldsGo, if_neg h2]
  | a :: b :: r, acc, h => by
    obtain ⟨h1, h2⟩ := h a (by simp)
    rw [joinT, if_neg (by simp), fields_run acc _ a [] h1, List.nil_append, fieldsGo, if_pos rfl, if_neg h2, fields_join (b :: r) (acc ++ [a]) (fun t ht => h t (by simp at ht ⊢; exact .inr ht))]
    simp
end Go.Proofs.YtmfphbdafgmplaaDoor.W
