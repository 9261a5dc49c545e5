/- The plain laws of the journal's texts: entries are read. No program in sight. -/
import Derived.Test.YtpocodofhkaddaaGreatDoorNum
import Derived.Lib.SplitLaws
set_option linter.unusedVariables false
set_option linter.unusedSimpArgs false
set_option maxHeartbeats 2000000
namespace Go.Proofs.YtpocodofhkaddaaGreatDoor.W
open Go Go.RowKit
/-! ### the text of an entry -/
def wordOf (k : Int) : List UInt8 :=
  if k = 0 then [112, 97, 114, 116] else if k = 1 then [99, 121, 99, 108, 101, 115] else if k = 2 then [102, 97, 117, 108, 116] else if k = 3 then [114, 101, 112, 97, 105, 114]
  else if k = 4 then [114, 101, 112, 108, 97, 99, 101] else [114, 101, 109, 111, 118, 101]
def toks (x : Entry) : List (List UInt8) :=
  wordOf x.kind :: x.name :: ((if x.kind = 0 ∨ x.kind = 1 ∨ x.kind = 4 then [Lib.decDigits x.count.toNat] else []) ++ (if x.kind = 1 then [Lib.decDigits x.strokes.toNat] else []))
def joinT : List (List UInt8) → List UInt8
  | [] => []
  | a :: r => if r = [] then a else a ++ 32 :: joinT r
def textS (x : Entry) : List UInt8 := joinT (toks x)
theorem text_at (x : Entry) (e : GoodE x) : journal_text x = some (textS x) ∧ ref58_Written x = some (textS x) ∧ (textS x).length ≤ 60 := by
  have hn := goodE_short e
  have hc := e.cn
  have hs := e.sn
  have hk0 := e.k0; have hk1 := e.k1
  obtain ⟨kind, name, count, strokes⟩ := x
  simp only at hn hc hs hk0 hk1
  have hcases : kind = 0 ∨ kind = 1 ∨ kind = 2 ∨ kind = 3 ∨ kind = 4 ∨ kind = 5 := by omega
  unfold journal_text ref58_Written ref58_words ref58_counted joinK
  rcases hcases with rfl | rfl | rfl | rfl | rfl | rfl
  · obtain ⟨h1, h2⟩ := hc (by decide)
    obtain ⟨n1, n2, n3⟩ := num_eq (a := count) (by omega) h2
    obtain ⟨t, ht⟩ : ∃ t, t = [112, 97, 114, 116] ++ [32] ++ name ++ ([32] ++ Lib.decDigits count.toNat) := ⟨_, rfl⟩
    have hT : textS ⟨0, name, count, strokes⟩ = t := (show textS ⟨0, name, count, strokes⟩ = t by rw [ht]; simp [textS, toks, joinT, wordOf])
    rw [hT]
    subst ht
    refine ⟨?_, ?_, by simp; omega⟩
    · simp only [BEq.rfl, if_true, n1, Option.bind_some, Bool.false_eq_true, if_false]
      rw [catO_small (by simp), Option.bind_some, catO_small (by simp; omega), Option.bind_some, catO_small (by simp; omega), Option.bind_some, catO_small (by simp; omega), Option.bind_some]
    · simp only [Option.bind_some, at?, show (0 : Int) ≤ 0 from Int.le_refl 0, if_true, BEq.rfl, Bool.true_or, n2, show ((0 : Int) == 1) = false from rfl, Bool.false_eq_true, if_false]
      show ((some [112, 97, 114, 116]).bind _) = _
      rw [Option.bind_some, catO_small (by simp), Option.bind_some, catO_small (by simp; omega), Option.bind_some, catO_small (by simp; omega), Option.bind_some, catO_small (by simp; omega), Option.bind_some]
  · obtain ⟨h1, h2⟩ := hc (by decide)
    obtain ⟨n1, n2, n3⟩ := num_eq (a := count) (by omega) h2
    obtain ⟨s1, s2⟩ := hs rfl
    obtain ⟨m1, m2, m3⟩ := num_eq (a := strokes) s1 s2
    obtain ⟨t, ht⟩ : ∃ t, t = [99, 121, 99, 108, 101, 115] ++ [32] ++ name ++ ([32] ++ Lib.decDigits count.toNat) ++ ([32] ++ Lib.decDigits strokes.toNat) := ⟨_, rfl⟩
    have hT : textS ⟨1, name, count, strokes⟩ = t := (show textS ⟨1, name, count, strokes⟩ = t by rw [ht]; simp [textS, toks, joinT, wordOf])
    rw [hT]
    subst ht
    refine ⟨?_, ?_, by simp; omega⟩
    · simp only [show ((1 : Int) == 0) = false from rfl, BEq.rfl, if_true, n1, m1, Option.bind_some, Bool.false_eq_true, if_false]
      rw [catO_small (by simp), Option.bind_some, catO_small (by simp; omega), Option.bind_some, catO_small (by simp; omega), Option.bind_some, catO_small (by simp; omega), Option.bind_some, catO_small (by simp; omega), Option.bind_some, catO_small (by simp; omega), Option.bind_some]
    · simp only [Option.bind_some, at?, show (0 : Int) ≤ 1 by decide, if_true, BEq.rfl, Bool.or_true, Bool.true_or, n2, m2]
      show ((some [99, 121, 99, 108, 101, 115]).bind _) = _
      rw [Option.bind_some, catO_small (by simp), Option.bind_some, catO_small (by simp; omega), Option.bind_some, catO_small (by simp; omega), Option.bind_some, catO_small (by simp; omega), Option.bind_some, catO_small (by simp; omega), Option.bind_some, catO_small (by simp; omega), Option.bind_some]
  · obtain ⟨t, ht⟩ : ∃ t, t = [102, 97, 117, 108, 116] ++ [32] ++ name := ⟨_, rfl⟩
    have hT : textS ⟨2, name, count, strokes⟩ = t := (show textS ⟨2, name, count, strokes⟩ = t by rw [ht]; simp [textS, toks, joinT, wordOf])
    rw [hT]
    subst ht
    refine ⟨?_, ?_, by simp; omega⟩
    · simp only [show ((2 : Int) == 0) = false from rfl, show ((2 : Int) == 1) = false from rfl, BEq.rfl, if_true, Option.bind_some, Bool.false_eq_true, if_false]
      rw [catO_small (by simp), Option.bind_some, catO_small (by simp; omega), Option.bind_some]
    · simp only [Option.bind_some, at?, show (0 : Int) ≤ 2 by decide, if_true, show ((2 : Int) == 0) = false from rfl, show ((2 : Int) == 1) = false from rfl, show ((2 : Int) == 4) = false from rfl, Bool.or_self, Bool.false_eq_true, if_false]
      show ((some [102, 97, 117, 108, 116]).bind _) = _
      rw [Option.bind_some, catO_small (by simp), Option.bind_some, catO_small (by simp; omega), Option.bind_some]
  · obtain ⟨t, ht⟩ : ∃ t, t = [114, 101, 112, 97, 105, 114] ++ [32] ++ name := ⟨_, rfl⟩
    have hT : textS ⟨3, name, count, strokes⟩ = t := (show textS ⟨3, name, count, strokes⟩ = t by rw [ht]; simp [textS, toks, joinT, wordOf])
    rw [hT]
    subst ht
    refine ⟨?_, ?_, by simp; omega⟩
    · simp only [show ((3 : Int) == 0) = false from rfl, show ((3 : Int) == 1) = false from rfl, show ((3 : Int) == 2) = false from rfl, BEq.rfl, if_true, Option.bind_some, Bool.false_eq_true, if_false]
      rw [catO_small (by simp), Option.bind_some, catO_small (by simp; omega), Option.bind_some]
    · simp only [Option.bind_some, at?, show (0 : Int) ≤ 3 by decide, if_true, show ((3 : Int) == 0) = false from rfl, show ((3 : Int) == 1) = false from rfl, show ((3 : Int) == 4) = false from rfl, Bool.or_self, Bool.false_eq_true, if_false]
      show ((some [114, 101, 112, 97, 105, 114]).bind _) = _
      rw [Option.bind_some, catO_small (by simp), Option.bind_some, catO_small (by simp; omega), Option.bind_some]
  · obtain ⟨h1, h2⟩ := hc (by decide)
    obtain ⟨n1, n2, n3⟩ := num_eq (a := count) (by omega) h2
    obtain ⟨t, ht⟩ : ∃ t, t = [114, 101, 112, 108, 97, 99, 101] ++ [32] ++ name ++ ([32] ++ Lib.decDigits count.toNat) := ⟨_, rfl⟩
    have hT : textS ⟨4, name, count, strokes⟩ = t := (show textS ⟨4, name, count, strokes⟩ = t by rw [ht]; simp [textS, toks, joinT, wordOf])
    rw [hT]
    subst ht
    refine ⟨?_, ?_, by simp; omega⟩
    · simp only [show ((4 : Int) == 0) = false from rfl, show ((4 : Int) == 1) = false from rfl, show ((4 : Int) == 2) = false from rfl, show ((4 : Int) == 3) = false from rfl, BEq.rfl, if_true, n1, Option.bind_some, Bool.false_eq_true, if_false]
      rw [catO_small (by simp), Option.bind_some, catO_small (by simp; omega), Option.bind_some, catO_small (by simp; omega), Option.bind_some, catO_small (by simp; omega), Option.bind_some]
    · simp only [Option.bind_some, at?, show (0 : Int) ≤ 4 by decide, if_true, show ((4 : Int) == 0) = false from rfl, show ((4 : Int) == 1) = false from rfl, BEq.rfl, Bool.or_true, n2, Bool.false_eq_true, if_false]
      show ((some [114, 101, 112, 108, 97, 99, 101]).bind _) = _
      rw [Option.bind_some, catO_small (by simp), Option.bind_some, catO_small (by simp; omega), Option.bind_some, catO_small (by simp; omega), Option.bind_some, catO_small (by simp; omega), Option.bind_some]
  · obtain ⟨t, ht⟩ : ∃ t, t = [114, 101, 109, 111, 118, 101] ++ [32] ++ name := ⟨_, rfl⟩
    have hT : textS ⟨5, name, count, strokes⟩ = t := (show textS ⟨5, name, count, strokes⟩ = t by rw [ht]; simp [textS, toks, joinT, wordOf])
    rw [hT]
    subst ht
    refine ⟨?_, ?_, by simp; omega⟩
    · simp only [show ((5 : Int) == 0) = false from rfl, show ((5 : Int) == 1) = false from rfl, show ((5 : Int) == 2) = false from rfl, show ((5 : Int) == 3) = false from rfl, show ((5 : Int) == 4) = false from rfl, BEq.rfl, if_true, Option.bind_some, Bool.false_eq_true, if_false]
      rw [catO_small (by simp), Option.bind_some, catO_small (by simp; omega), Option.bind_some]
    · simp only [Option.bind_some, at?, show (0 : Int) ≤ 5 by decide, if_true, show ((5 : Int) == 0) = false from rfl, show ((5 : Int) == 1) = false from rfl, show ((5 : Int) == 4) = false from rfl, Bool.or_self, Bool.false_eq_true, if_false]
      show ((some [114, 101, 109, 111, 118, 101]).bind _) = _
      rw [Option.bind_some, catO_small (by simp), Option.bind_some, catO_small (by simp; omega), Option.bind_some]
theorem right_all (x : Entry) (hn : x.name.length ≤ 4611686018427387904) : journal_Right x = some (rcode x) ∧ ref58_Right x = some (rcode x) := by
  obtain ⟨kind, name, count, strokes⟩ := x
  have hn' : name.length ≤ 4611686018427387904 := hn
  unfold journal_Right ref58_Right rcode journal_in ref58_in ref58_counted joinK
  simp only [in_dec, lword_eq name (by omega), rword_eq name (by omega), Option.bind_some]
  by_cases hk : 0 ≤ kind ∧ kind ≤ 5
  · simp only [decide_eq_true hk, Bool.not_true, Bool.false_eq_true, if_false, if_neg (not_not_intro hk)]
    by_cases hw : word name = 0
    · simp only [hw, bne_self_eq_false, Bool.false_eq_true, if_false, ne_eq, not_true_eq_false]
      have hcases : kind = 0 ∨ kind = 1 ∨ kind = 2 ∨ kind = 3 ∨ kind = 4 ∨ kind = 5 := by omega
      by_cases h1 : 1 ≤ count ∧ count ≤ 1048576 <;> by_cases h2 : 0 ≤ strokes ∧ strokes ≤ 1048576 <;> by_cases h3 : count = 0 <;> by_cases h4 : strokes = 0 <;> rcases hcases with rfl | rfl | rfl | rfl | rfl | rfl <;> simp [h1, h2, h3, h4]
    · have b : (word name != 0) = true := by simpa using hw
      simp only [b, if_true, ne_eq, hw, not_false_eq_true]
      exact ⟨trivial, trivial⟩
  · simp only [decide_eq_false hk, Bool.not_false, if_true, if_pos hk]
    exact ⟨trivial, trivial⟩

/-! ### splitting at spaces -/
theorem split_eq (s sep : List UInt8) : splitL s sep = Lib.split s sep := by
  unfold splitL
  exact Lib.splitB_data _ _ _ _
theorem occ_one (c : UInt8) (s : List UInt8) (j : Nat) : Lib.occAt s [c] j = (s[j]? == some c) := by
  unfold Lib.occAt
  rw [← List.head?_drop]
  cases s.drop j with
  | nil => rfl
  | cons b r =>
    simp only [List.isPrefixOf, List.head?_cons, Bool.and_true]
    rw [Bool.eq_iff_iff, beq_iff_eq, beq_iff_eq]
    exact ⟨fun h => by rw [h], fun h => (Option.some.inj h).symm⟩
theorem index_cut (c : UInt8) (a r : List UInt8) (h : c ∉ a) : Lib.index (a ++ c :: r) [c] = (a.length : Nat) := by
  refine Lib.index_first (by simp) ?_ (fun j hj => ?_)
  · rw [occ_one]; simp
  · rw [occ_one, List.getElem?_append_left hj, List.getElem?_eq_getElem hj, beq_eq_false_iff_ne]
    intro q
    exact h (by rw [← Option.some.inj q]; exact List.getElem_mem hj)
theorem index_no (c : UInt8) (a : List UInt8) (h : c ∉ a) : Lib.index a [c] = -1 := by
  refine Lib.index_none (fun j hj => ?_)
  rw [occ_one, beq_eq_false_iff_ne]
  intro q
  exact h (List.mem_of_getElem? q)
theorem split_cut (c : UInt8) (a r : List UInt8) (h : c ∉ a) : Lib.split (a ++ c :: r) [c] = a :: Lib.split r [c] := by
  have hi := index_cut c a r h
  unfold Lib.split
  rw [Lib.count_hit (by simp) hi]
  have e : (a ++ c :: r).drop (a.length + ([c] : List UInt8).length) = r := by simp
  rw [e, Nat.add_comm 1, Lib.splitK, hi, if_neg (by rw [beq_iff_eq]; omega)]
  simp
theorem split_end (c : UInt8) (a : List UInt8) (h : c ∉ a) : Lib.split a [c] = [a] := by
  unfold Lib.split
  rw [Lib.count_miss (index_no c a h)]
  rfl
theorem split_join : ∀ (l : List (List UInt8)), l ≠ [] → (∀ t ∈ l, (32 : UInt8) ∉ t) → Lib.split (joinT l) [32] = l
  | [], h, _ => absurd rfl h
  | [a], _, h => by
    rw [joinT, if_pos rfl]
    exact split_end 32 a (h a (by simp))
  | a :: b :: r, _, h => by
    rw [joinT, if_neg (by simp), split_cut 32 a _ (h a (by simp)), split_join (b :: r) (by simp) (fun t ht => h t (by simp at ht ⊢; exact .inr ht))]
theorem split_ne (s sep : List UInt8) : Lib.split s sep ≠ [] := by
  unfold Lib.split
  cases Lib.count s sep with
  | zero => simp [Lib.splitK]
  | succ n =>
    unfold Lib.splitK
    split <;> simp
theorem splitK_len (sep : List UInt8) : ∀ (k : Nat) (s t : List UInt8), t ∈ Lib.splitK sep 0 k s → t.length ≤ s.length
  | 0, s, t, h => by
    rw [Lib.splitK, List.mem_singleton] at h
    rw [h]; exact Nat.le_refl _
  | k + 1, s, t, h => by
    unfold Lib.splitK at h
    split at h
    · rw [List.mem_singleton] at h
      rw [h]; exact Nat.le_refl _
    · rcases List.mem_cons.1 h with rfl | h
      · rw [List.length_take]; omega
      · have := splitK_len sep k _ t h
        rw [List.length_drop] at this
        omega
theorem split_len {s sep t : List UInt8} (h : t ∈ Lib.split s sep) : t.length ≤ s.length := splitK_len sep _ s t h
/-! ### the reference's fields -/
def fieldsGo (last : List UInt8) (acc : List (List UInt8)) : List UInt8 → List (List UInt8)
  | [] => if last = [] then acc else acc ++ [last]
  | b :: r => if b = 32 then fieldsGo [] (if last = [] then acc else acc ++ [last]) r else fieldsGo (last ++ [b]) acc r
theorem fields_len : ∀ (r last : List UInt8) (acc : List (List UInt8)) (n : Nat), (∀ t ∈ acc, t.length ≤ n) → last.length + r.length ≤ n → ∀ t ∈ fieldsGo last acc r, t.length ≤ n
  | [], last, acc, n, h, hl, t, ht => by
    rw [fieldsGo] at ht
    split at ht
    · exact h t ht
    · rcases List.mem_append.1 ht with ht | ht
      · exact h t ht
      · rw [List.mem_singleton.1 ht]; simp at hl; omega
  | b :: r, last, acc, n, h, hl, t, ht => by
    rw [List.length_cons] at hl
    rw [fieldsGo] at ht
    split at ht
    · refine fields_len r [] _ n (fun u hu => ?_) (by simp; omega) t ht
      split at hu
      · exact h u hu
      · rcases List.mem_append.1 hu with hu | hu
        · exact h u hu
        · rw [List.mem_singleton.1 hu]; omega
    · exact fields_len r (last ++ [b]) acc n h (by simp; omega) t ht
theorem fields_loop (s : List UInt8) (k : List (List UInt8) → Option (List (List UInt8))) (hb : s.length ≤ 1000000) : ∀ (r pre last : List UInt8) (acc : List (List UInt8)), s = pre ++ r → last.length ≤ pre.length → acc.length ≤ pre.length →
    ref12_Fields_loop1 s k (r.length + 2) last (pre.length : Int) acc = k (fieldsGo last acc r)
  | [], pre, last, acc, e, h1, h2 => by
    have hlen : s.length = pre.length := by rw [e]; simp
    have c1 : decide ((pre.length : Int) ≤ (s.length : Int)) = true := decide_eq_true (by omega)
    have c2 : decide ((pre.length : Int) < (s.length : Int)) = false := decide_eq_false (by omega)
    have c3 : decide (IntKind.wrap .i64 ((pre.length : Int) + 1) ≤ (s.length : Int)) = false := by
      rw [wrap64 (by omega) (by omega)]; exact decide_eq_false (by omega)
    rw [List.length_nil]
    unfold ref12_Fields_loop1 joinK
    simp only [c1, c2, if_true, Bool.false_eq_true, if_false, Option.bind_some]
    rw [fieldsGo]
    by_cases hl : last = []
    · subst hl
      simp [ref12_Fields_loop1, c3]
    · have q : (!(last == [])) = true := by simpa using hl
      rw [if_pos q, if_neg hl, appO_ok (by simp; omega) (by decide), Option.bind_some]
      simp [ref12_Fields_loop1, c3]
  | b :: r, pre, last, acc, e, h1, h2 => by
    have hlen : s.length = pre.length + (r.length + 1) := by rw [e]; simp
    have c1 : decide ((pre.length : Int) ≤ (s.length : Int)) = true := decide_eq_true (by omega)
    have c2 : decide ((pre.length : Int) < (s.length : Int)) = true := decide_eq_true (by omega)
    have hby : byteAt s (pre.length : Int) = some b := by rw [e]; exact byteAt_mid
    have w : IntKind.wrap .i64 ((pre.length : Int) + 1) = (((pre ++ [b]).length : Nat) : Int) := by rw [wrap64 (by omega) (by omega)]; simp
    have hc : cut s (pre.length : Int) (((pre ++ [b]).length : Nat) : Int) = some [b] := by
      unfold cut
      rw [if_pos ⟨by omega, by simp only [List.length_append, List.length_singleton]; omega, by simp only [List.length_append, List.length_singleton]; omega⟩, e]
      simp
    have c4 : ((b.toNat : Int) != 32) = !(decide (b = 32)) := by
      rw [Bool.eq_iff_iff, bne_iff_ne, Bool.not_eq_true', decide_eq_false_iff_not]
      constructor
      · intro h q; rw [q] at h; exact h rfl
      · intro h q; exact h (UInt8.toNat_inj.1 (by have : (32 : UInt8).toNat = 32 := rfl; omega))
    rw [List.length_cons]
    unfold ref12_Fields_loop1 joinK
    simp only [c1, c2, if_true, hby, Option.bind_some, c4, w, hc]
    rw [fieldsGo]
    by_cases h32 : b = 32
    · simp only [h32, decide_true, Bool.not_true, Bool.false_eq_true, if_false, if_true]
      subst h32
      by_cases hl : last = []
      · subst hl
        simp only [BEq.rfl, Bool.not_true, Bool.false_eq_true, if_false, if_true]
        exact fields_loop s k hb r (pre ++ [32]) [] acc (by rw [e, mid_cons]) (by simp) (by simp; omega)
      · have q : (!(last == [])) = true := by simpa using hl
        rw [if_pos q, if_neg hl, appO_ok (by simp; omega) (by decide), Option.bind_some]
        exact fields_loop s k hb r (pre ++ [32]) [] (acc ++ [last]) (by rw [e, mid_cons]) (by simp) (by simp; omega)
    · simp only [decide_eq_false h32, Bool.not_false, if_true, if_neg h32]
      rw [catO_small (by simp; omega), Option.bind_some]
      exact fields_loop s k hb r (pre ++ [b]) (last ++ [b]) acc (by rw [e, mid_cons]) (by simp; omega) (by simp; omega)
theorem fields_eq (s : List UInt8) (hb : s.length ≤ 1000000) : ref12_Fields s = some (fieldsGo [] [] s) := by
  unfold ref12_Fields joinK
  have := fields_loop s (fun l5 => some l5) hb s [] [] [] rfl (by simp) (by simp)
  simpa using this
theorem fields_run (acc : List (List UInt8)) (r : List UInt8) : ∀ (a last : List UInt8), (32 : UInt8) ∉ a → fieldsGo last acc (a ++ r) = fieldsGo (last ++ a) acc r
  | [], last, _ => by simp
  | b :: a, last, h => by
    have hb : b ≠ 32 := fun q => h (by rw [q]; simp)
    have ha : (32 : UInt8) ∉ a := fun q => h (by simp [q])
    rw [List.cons_append, fieldsGo, if_neg hb, fields_run acc r a (last ++ [b]) ha]
    simp
theorem fields_join : ∀ (l acc : List (List UInt8)), (∀ t ∈ l, (32 : UInt8) ∉ t ∧ t ≠ []) → fieldsGo [] acc (joinT l) = acc ++ l
  | [], acc, _ => by simp [joinT, fieldsGo]
  | [a], acc, h => by
    obtain ⟨h1, h2⟩ := h a (by simp)
    have := fields_run acc [] a [] h1
    rw [joinT, if_pos rfl]
    rw [List.append_nil] at this
    rw [this, List.nil_append, fieldsGo, if_neg h2]
  | a :: b :: r, acc, h => by
    obtain ⟨h1, h2⟩ := h a (by simp)
    rw [joinT, if_neg (by simp), fields_run acc _ a [] h1, List.nil_append, fieldsGo, if_pos rfl, if_neg h2, fields_join (b :: r) (acc ++ [a]) (fun t ht => h t (by simp at ht ⊢; exact .inr ht))]
    simp
/-! ### the tokens of an entry -/
theorem inner32 : inner 32 = false := by decide
theorem word_in {s : List UInt8} (h : word s = 0) : s ≠ [] ∧ (∀ b ∈ s, inner b = true) := by
  cases s with
  | nil => cases h
  | cons b r =>
    refine ⟨by simp, ?_⟩
    rw [word_cons] at h
    split at h
    · cases h
    · split at h
      · cases h
      · rename_i h2
        exact List.all_eq_true.1 (by simpa using h2)
theorem word_of_le {k : Int} : wordOf k ≠ [] ∧ (32 : UInt8) ∉ wordOf k := by
  unfold wordOf
  repeat' split
  all_goals exact ⟨by decide, by decide⟩
theorem dec_no32 (n : Nat) : Lib.decDigits n ≠ [] ∧ (32 : UInt8) ∉ Lib.decDigits n :=
  ⟨dec_ne n, fun h => by have := isD_iff.1 (dec_all n 32 h); have : (32 : UInt8).toNat = 32 := rfl; omega⟩
theorem toks_ok {x : Entry} (e : GoodE x) : ∀ t ∈ toks x, (32 : UInt8) ∉ t ∧ t ≠ [] := by
  intro t ht
  unfold toks at ht
  rcases List.mem_cons.1 ht with rfl | ht
  · exact ⟨word_of_le.2, word_of_le.1⟩
  · rcases List.mem_cons.1 ht with rfl | ht
    · obtain ⟨h1, h2⟩ := word_in e.nm
      exact ⟨fun q => absurd (h2 32 q) (by rw [inner32]; decide), h1⟩
    · rcases List.mem_append.1 ht with ht | ht
      · split at ht
        · rw [List.mem_singleton.1 ht]; exact ⟨(dec_no32 _).2, (dec_no32 _).1⟩
        · cases ht
      · split at ht
        · rw [List.mem_singleton.1 ht]; exact ⟨(dec_no32 _).2, (dec_no32 _).1⟩
        · cases ht
/-! ### Read -/
def kindS (w : List UInt8) : Int :=
  if w = [112, 97, 114, 116] then 0 else if w = [99, 121, 99, 108, 101, 115] then 1 else if w = [102, 97, 117, 108, 116] then 2 else if w = [114, 101, 112, 97, 105, 114] then 3
  else if w = [114, 101, 112, 108, 97, 99, 101] then 4 else if w = [114, 101, 109, 111, 118, 101] then 5 else -1
theorem kind_cases (w : List UInt8) : kindS w = -1 ∨ kindS w = 0 ∨ kindS w = 1 ∨ kindS w = 2 ∨ kindS w = 3 ∨ kindS w = 4 ∨ kindS w = 5 := by
  unfold kindS
  repeat' split
  all_goals simp
theorem kind_word {k : Int} (h0 : 0 ≤ k) (h1 : k ≤ 5) : kindS (wordOf k) = k := by
  have : k = 0 ∨ k = 1 ∨ k = 2 ∨ k = 3 ∨ k = 4 ∨ k = 5 := by omega
  rcases this with rfl | rfl | rfl | rfl | rfl | rfl <;> decide
theorem at?_zero {α : Type} (w : α) (r : List α) : at? (w :: r) 0 = some w := rfl
theorem jread_loop (w : List UInt8) (r : List (List UInt8)) (k1 : Int → Option (Entry × Int)) (k2 : Option (Entry × Int)) : journal_Read_loop1 (w :: r) k1 k2 7 0 = if kindS w = -1 then k2 else k1 (kindS w) := by
  have w4 : IntKind.wrap .i64 4 = 4 := by kernel_rfl
  have w5 : IntKind.wrap .i64 5 = 5 := by kernel_rfl
  have w6 : IntKind.wrap .i64 6 = 6 := by kernel_rfl
  have e : ∀ a : List UInt8, (a == w) = decide (w = a) := fun a => by
    rw [Bool.eq_iff_iff, beq_iff_eq, decide_eq_true_eq]; exact eq_comm
  have step : ∀ (m : Nat) (i : Int), 0 ≤ i → i ≤ 5 → journal_Read_loop1 (w :: r) k1 k2 (m + 1) i = if wordOf i = w then k1 i else journal_Read_loop1 (w :: r) k1 k2 m (i + 1) := fun m i h0 h1 => by
    have hc : i = 0 ∨ i = 1 ∨ i = 2 ∨ i = 3 ∨ i = 4 ∨ i = 5 := by omega
    have e2 : ∀ a : List UInt8, (a == w) = decide (a = w) := fun a => by
      rw [Bool.eq_iff_iff, beq_iff_eq, decide_eq_true_eq]
    rcases hc with rfl | rfl | rfl | rfl | rfl | rfl <;> rw [journal_Read_loop1] <;> simp only [joinK, at?_zero, Option.bind_some, e2, wordOf] <;> simp [wrap01, wrap11, wrap21, w4, w5, w6]
  have h0 := step 6 0 (by omega) (by omega)
  have h1 := step 5 1 (by omega) (by omega)
  have h2 := step 4 2 (by omega) (by omega)
  have h3 := step 3 3 (by omega) (by omega)
  have h4 := step 2 4 (by omega) (by omega)
  have h5 := step 1 5 (by omega) (by omega)
  have h6 : journal_Read_loop1 (w :: r) k1 k2 1 6 = k2 := by simp [journal_Read_loop1]
  have eqs : ∀ k : Int, (wordOf k = w) = (w = wordOf k) := fun k => propext eq_comm
  rw [h0, show (0 : Int) + 1 = 1 from rfl, h1, show (1 : Int) + 1 = 2 from rfl, h2, show (2 : Int) + 1 = 3 from rfl, h3, show (3 : Int) + 1 = 4 from rfl, h4, show (4 : Int) + 1 = 5 from rfl, h5, show (5 : Int) + 1 = 6 from rfl, h6]
  simp only [eqs]
  unfold kindS
  simp only [show wordOf 0 = [112, 97, 114, 116] from rfl, show wordOf 1 = [99, 121, 99, 108, 101, 115] from rfl, show wordOf 2 = [102, 97, 117, 108, 116] from rfl, show wordOf 3 = [114, 101, 112, 97, 105, 114] from rfl, show wordOf 4 = [114, 101, 112, 108, 97, 99, 101] from rfl, show wordOf 5 = [114, 101, 109, 111, 118, 101] from rfl]
  split
  · simp
  split
  · simp
  split
  · simp
  split
  · simp
  split
  · simp
  split
  · simp
  simp
theorem rread_loop2 (w : List UInt8) (r : List (List UInt8)) (k : Int → List UInt8 → Int → Int → Option (Entry × Int)) (s1 : List UInt8) (i3 i4 : Int) : ref58_Read_loop2 (w :: r) k s1 i3 i4 7 0 (-1) = k (kindS w) s1 i3 i4 := by
  have w4 : IntKind.wrap .i64 4 = 4 := by kernel_rfl
  have w5 : IntKind.wrap .i64 5 = 5 := by kernel_rfl
  have w6 : IntKind.wrap .i64 6 = 6 := by kernel_rfl
  have step : ∀ (m : Nat) (i j : Int), 0 ≤ i → i ≤ 5 → ref58_Read_loop2 (w :: r) k s1 i3 i4 (m + 1) i j = ref58_Read_loop2 (w :: r) k s1 i3 i4 m (i + 1) (if wordOf i = w then i else j) := fun m i j h0 h1 => by
    have hc : i = 0 ∨ i = 1 ∨ i = 2 ∨ i = 3 ∨ i = 4 ∨ i = 5 := by omega
    have e2 : ∀ a : List UInt8, (a == w) = decide (a = w) := fun a => by
      rw [Bool.eq_iff_iff, beq_iff_eq, decide_eq_true_eq]
    rcases hc with rfl | rfl | rfl | rfl | rfl | rfl <;> rw [ref58_Read_loop2] <;> simp only [joinK, at?_zero, Option.bind_some, ref58_words, at?, e2, wordOf] <;> simp [wrap01, wrap11, wrap21, w4, w5, w6] <;> split <;> rfl
  rw [step 6 0 _ (by omega) (by omega), show (0 : Int) + 1 = 1 from rfl, step 5 1 _ (by omega) (by omega), show (1 : Int) + 1 = 2 from rfl, step 4 2 _ (by omega) (by omega), show (2 : Int) + 1 = 3 from rfl, step 3 3 _ (by omega) (by omega), show (3 : Int) + 1 = 4 from rfl, step 2 4 _ (by omega) (by omega), show (4 : Int) + 1 = 5 from rfl, step 1 5 _ (by omega) (by omega), show (5 : Int) + 1 = 6 from rfl]
  have e6 : ∀ j, ref58_Read_loop2 (w :: r) k s1 i3 i4 1 6 j = k j s1 i3 i4 := fun j => by simp [ref58_Read_loop2]
  rw [e6]
  congr 1
  have eqs : ∀ k : Int, (wordOf k = w) = (w = wordOf k) := fun k => propext eq_comm
  simp only [eqs]
  unfold kindS
  simp only [show wordOf 0 = [112, 97, 114, 116] from rfl, show wordOf 1 = [99, 121, 99, 108, 101, 115] from rfl, show wordOf 2 = [102, 97, 117, 108, 116] from rfl, show wordOf 3 = [114, 101, 112, 97, 105, 114] from rfl, show wordOf 4 = [114, 101, 112, 108, 97, 99, 101] from rfl, show wordOf 5 = [114, 101, 109, 111, 118, 101] from rfl]
  by_cases q0 : w = [112, 97, 114, 116]
  · subst q0; rfl
  by_cases q1 : w = [99, 121, 99, 108, 101, 115]
  · subst q1; rfl
  by_cases q2 : w = [102, 97, 117, 108, 116]
  · subst q2; rfl
  by_cases q3 : w = [114, 101, 112, 97, 105, 114]
  · subst q3; rfl
  by_cases q4 : w = [114, 101, 112, 108, 97, 99, 101]
  · subst q4; rfl
  by_cases q5 : w = [114, 101, 109, 111, 118, 101]
  · subst q5; rfl
  simp only [q0, q1, q2, q3, q4, q5, if_false]
/-- what Read makes of an entry that was put together -/
theorem jread_end (x : Entry) (s : List UInt8) (hn : x.name.length ≤ 4611686018427387904) : ∃ rJ : Entry × Int, ((journal_Right x).bind fun r4 =>
      (if (r4 != 0) = true then some true else (journal_text x).bind fun r5 => some (!(r5 == s))).bind fun c4 => if c4 = true then some (Entry.mk 0 [] 0 0, 4) else some (x, 0)) = some rJ ∧
    (rJ.2 = 0 → rJ.1 = x ∧ GoodE x ∧ textS x = s) ∧ (rJ.2 ≠ 0 → rJ = (Entry.mk 0 [] 0 0, 4)) ∧ (GoodE x → textS x = s → rJ = (x, 0)) := by
  rw [(right_all x hn).1, Option.bind_some]
  by_cases h : rcode x = 0
  · have e := rcode_zero.1 h
    rw [h, if_neg (by decide), (text_at x e).1, Option.bind_some, Option.bind_some]
    by_cases ht : textS x = s
    · rw [if_neg (by simp [ht])]
      exact ⟨_, rfl, fun _ => ⟨rfl, e, ht⟩, fun q => absurd rfl q, fun _ _ => rfl⟩
    · rw [if_pos (by simp [ht])]
      exact ⟨_, rfl, fun q => absurd q (by decide), fun _ => rfl, fun _ q => absurd q ht⟩
  · rw [if_pos (bne_iff_ne.2 h), Option.bind_some, if_pos rfl]
    exact ⟨_, rfl, fun q => absurd q (by decide), fun _ => rfl, fun q => absurd (rcode_zero.2 q) h⟩
theorem rread_end (x : Entry) (s : List UInt8) (hn : x.name.length ≤ 4611686018427387904) : ∃ rJ : Entry × Int, ((ref58_Text x).bind fun r5 => if ((r5.2 != 0) || (!(r5.1 == s))) = true then some (Entry.mk 0 [] 0 0, 4) else some (x, 0)) = some rJ ∧
    (rJ.2 = 0 → rJ.1 = x ∧ GoodE x ∧ textS x = s) ∧ (rJ.2 ≠ 0 → rJ = (Entry.mk 0 [] 0 0, 4)) ∧ (GoodE x → textS x = s → rJ = (x, 0)) := by
  unfold ref58_Text
  rw [(right_all x hn).2, Option.bind_some]
  by_cases h : rcode x = 0
  · have e := rcode_zero.1 h
    rw [h, if_neg (by decide), (text_at x e).2.1, Option.bind_some, Option.bind_some]
    by_cases ht : textS x = s
    · rw [if_neg (by simp [ht])]
      exact ⟨_, rfl, fun _ => ⟨rfl, e, ht⟩, fun q => absurd rfl q, fun _ _ => rfl⟩
    · rw [if_pos (by simp [ht])]
      exact ⟨_, rfl, fun q => absurd q (by decide), fun _ => rfl, fun _ q => absurd q ht⟩
  · rw [if_pos (bne_iff_ne.2 h), Option.bind_some, if_pos (by simp [bne_iff_ne.2 h])]
    exact ⟨_, rfl, fun q => absurd q (by decide), fun _ => rfl, fun q => absurd (rcode_zero.2 q) h⟩
end Go.Proofs.YtpocodofhkaddaaGreatDoor.W
