/- The plain laws of strokes, first part: splitting texts. No program in sight. -/
import Derived.Test.YtbhcojijafbdiaaGreatDoorBase
set_option linter.unusedVariables false
set_option linter.unusedSimpArgs false
set_option maxHeartbeats 2000000
namespace Go.Proofs.YtbhcojijafbdiaaGreatDoor.W
open Go Go.RowKit
theorem cut_nat {s : List UInt8} {i j : Nat} (h : i ≤ j) (hj : j ≤ s.length) : cut s (i : Int) (j : Int) = some ((s.take j).drop i) := by
  unfold cut
  rw [if_pos ⟨by omega, by omega, by omega⟩]
  congr 1
  rw [List.drop_take]
  simp
theorem split_eq (s sep : List UInt8) : splitL s sep = Lib.split s sep := by
  unfold splitL
  exact Lib.splitB_data _ _ _ _
theorem splitS_eq {s sep : List UInt8} (hs : s.length ≤ 1000000) (h : 1 ≤ sep.length) : splitS s sep = some (Lib.split s sep) := by
  unfold splitS
  rw [if_pos ⟨by omega, h⟩, split_eq]
theorem isPrefix_take : ∀ (a b : List UInt8), a.isPrefixOf b = (b.take a.length == a)
  | [], b => by simp
  | x :: a, [] => by simp
  | x :: a, y :: b => by
    rw [List.isPrefixOf, isPrefix_take a b, List.length_cons, List.take_succ_cons]
    rw [Bool.eq_iff_iff, Bool.and_eq_true, beq_iff_eq, beq_iff_eq, beq_iff_eq, List.cons.injEq]
    exact ⟨fun ⟨p, q⟩ => ⟨p.symm, q⟩, fun ⟨p, q⟩ => ⟨p.symm, q⟩⟩
theorem occ_drop (s by_ : List UInt8) (f j : Nat) : Lib.occAt (s.drop f) by_ j = Lib.occAt s by_ (f + j) := by
  unfold Lib.occAt
  rw [List.drop_drop]
theorem occ_cut {s by_ : List UInt8} {i : Nat} (h : i + by_.length ≤ s.length) : cut s (i : Int) ((i + by_.length : Nat) : Int) = some ((s.take (i + by_.length)).drop i) ∧ ((s.take (i + by_.length)).drop i == by_) = Lib.occAt s by_ i := by
  refine ⟨cut_nat (by omega) h, ?_⟩
  unfold Lib.occAt
  rw [isPrefix_take, List.drop_take, Nat.add_sub_cancel_left]
theorem split_hit {s by_ : List UInt8} {j : Nat} (hb : by_ ≠ []) (h : Lib.index s by_ = (j : Int)) : Lib.split s by_ = s.take j :: Lib.split (s.drop (j + by_.length)) by_ := by
  unfold Lib.split
  rw [Lib.count_hit hb h, Nat.add_comm 1, Lib.splitK, if_neg (by rw [beq_iff_eq]; omega)]
  have e : (Lib.index s by_).toNat = j := by omega
  rw [e, Nat.add_zero]
theorem split_miss {s by_ : List UInt8} (h : Lib.index s by_ = -1) : Lib.split s by_ = [s] := by
  unfold Lib.split
  rw [Lib.count_miss h]
  rfl
theorem rcut_loop (s by_ : List UInt8) (k : Int → List (List UInt8) → Option (List (List UInt8))) (hs : s.length ≤ 1000000) (hb : by_ ≠ []) (hb2 : by_.length ≤ 1000) : ∀ (m f i : Nat) (acc : List (List UInt8)), s.length + 1 ≤ m + i → f ≤ s.length → i ≤ s.length + 1 → acc.length ≤ s.length + 1 →
    (∀ j, f ≤ j → j < i → Lib.occAt s by_ j = false) → acc.length ≤ f →
    ∃ f' : Nat, ref13_Cut_loop1 s by_ k (m + 1) (f : Int) (i : Int) acc = k (f' : Int) (acc ++ (Lib.split (s.drop f) by_).dropLast) ∧ f' ≤ s.length ∧ (Lib.split (s.drop f) by_).getLast? = some (s.drop f') ∧ (acc ++ (Lib.split (s.drop f) by_).dropLast).length ≤ s.length
  | m, f, i, acc, hm, hf, hi, ha, hno, haf => by
    have hbl : 0 < by_.length := List.length_pos_iff.2 hb
    unfold ref13_Cut_loop1 joinK
    dsimp only
    by_cases hend : i + by_.length ≤ s.length
    · have w1 : IntKind.wrap .i64 ((i : Int) + (by_.length : Int)) = ((i + by_.length : Nat) : Int) := by rw [wrap64 (by omega) (by omega)]; omega
      have w2 : IntKind.wrap .i64 ((i : Int) + 1) = ((i + 1 : Nat) : Int) := by rw [wrap64 (by omega) (by omega)]; omega
      rw [w1, if_pos (by rw [decide_eq_true_eq]; omega), w2]
      cases m with
      | zero => omega
      | succ m =>
        obtain ⟨hc, ho⟩ := occ_cut (s := s) (by_ := by_) (i := i) hend
        by_cases hfi : f ≤ i
        · rw [if_pos (by rw [decide_eq_true_eq]; omega), hc]
          simp only [Option.bind_some]
          rw [ho]
          by_cases hoc : Lib.occAt s by_ i = true
          · have hidx : Lib.index (s.drop f) by_ = ((i - f : Nat) : Int) := Lib.index_first (by rw [List.length_drop]; omega) (by rw [occ_drop, show f + (i - f) = i by omega]; exact hoc) (fun j hj => by rw [occ_drop]; exact hno _ (by omega) (by omega))
            have hsp := split_hit hb hidx
            have e1 : (s.drop f).take (i - f) = (s.take i).drop f := by rw [List.drop_take]
            have e2 : (s.drop f).drop (i - f + by_.length) = s.drop (i + by_.length) := by rw [List.drop_drop]; congr 1; omega
            rw [e1, e2] at hsp
            have hne : Lib.split (s.drop (i + by_.length)) by_ ≠ [] := by
              by_cases hx : Lib.index (s.drop (i + by_.length)) by_ = -1
              · rw [split_miss hx]; simp
              · have hge := Lib.index_ge (s.drop (i + by_.length)) by_
                rw [split_hit hb (show Lib.index (s.drop (i + by_.length)) by_ = ((Lib.index (s.drop (i + by_.length)) by_).toNat : Int) by omega)]; simp
            have hal : acc.length + 1 ≤ i + by_.length := by omega
            rw [if_pos hoc, cut_nat hfi (by omega), Option.bind_some, appO_ok (by simp; omega) (by decide), Option.bind_some]
            obtain ⟨f', h1, h2, h3, h4⟩ := rcut_loop s by_ k hs hb hb2 m (i + by_.length) (i + 1) (acc ++ [(s.take i).drop f]) (by omega) hend (by omega) (by simp; omega) (fun j h1 h2 => by omega) (by simp; omega)
            refine ⟨f', ?_, h2, ?_, ?_⟩
            · rw [h1, hsp, List.dropLast_cons_of_ne_nil hne]
              simp
            · rw [hsp, List.getLast?_cons_of_ne_nil hne]
              exact h3
            · rw [hsp, List.dropLast_cons_of_ne_nil hne]
              simpa using h4
          · rw [if_neg hoc]
            exact rcut_loop s by_ k hs hb hb2 m f (i + 1) acc (by omega) hf (by omega) ha (fun j h1 h2 => by
              by_cases hji : j = i
              · subst hji; simpa using hoc
              · exact hno j h1 (by omega)) haf
        · rw [if_neg (by rw [decide_eq_true_eq]; omega)]
          simp only [Option.bind_some, Bool.false_eq_true, if_false]
          exact rcut_loop s by_ k hs hb hb2 m f (i + 1) acc (by omega) hf (by omega) ha (fun j h1 h2 => by
              by_cases hji : j = i
              · omega
              · exact hno j h1 (by omega)) haf
    · have hno2 : ∀ j, f ≤ j → Lib.occAt s by_ j = false := fun j hj => by
        by_cases hji : j < i
        · exact hno j hj hji
        · cases hq : Lib.occAt s by_ j with
          | false => rfl
          | true =>
            rcases Lib.occAt_room hq with q | q
            · omega
            · exact absurd q hb
      have hidx : Lib.index (s.drop f) by_ = -1 := Lib.index_none (fun j _ => by rw [occ_drop]; exact hno2 _ (by omega))
      rw [wrap64 (by omega) (by omega), if_neg (by rw [decide_eq_true_eq]; omega), split_miss hidx]
      refine ⟨f, by simp, hf, rfl, ?_⟩
      simp
      omega
theorem rcut_eq (s by_ : List UInt8) (hs : s.length ≤ 1000000) (hb : by_ ≠ []) (hb2 : by_.length ≤ 1000) : ref13_Cut s by_ = some (Lib.split s by_) := by
  unfold ref13_Cut joinK
  dsimp only
  obtain ⟨f', h1, h2, h3, h4⟩ := rcut_loop s by_ (fun (i4 : Int) (l4 : (List (List UInt8))) => (cut s i4 (s.length : Int)).bind fun s3 => (appO 16 l4 ([s3] : List (List UInt8))).bind fun _ => some (l4 ++ ([s3] : List (List UInt8)))) hs hb hb2 (s.length + 1) 0 0 [] (by omega) (by omega) (by omega) (by simp) (fun j h1 h2 => by omega) (by simp)
  refine Eq.trans h1 ?_
  rw [cut_drop h2, Option.bind_some, appO_ok (by simp at h4 ⊢; omega) (by decide), Option.bind_some, List.nil_append]
  congr 1
  rw [List.drop_zero] at h3 ⊢
  have hne : Lib.split s by_ ≠ [] := fun q => by rw [q] at h3; cases h3
  have := List.dropLast_concat_getLast hne
  rw [List.getLast?_eq_some_getLast hne] at h3
  rw [← Option.some.inj h3]
  exact this
end Go.Proofs.YtbhcojijafbdiaaGreatDoor.W
