/- The plain laws of the journal's texts: Read, Text; the laws JournalTexts and JournalReads. No program in sight. -/
import Derived.Test.YtpocodofhkaddaaGreatDoorLawR
set_option linter.unusedVariables false
set_option linter.unusedSimpArgs false
set_option maxHeartbeats 2000000
namespace Go.Proofs.YtpocodofhkaddaaGreatDoor.W
open Go Go.RowKit
def candC (k : Int) (l : List (List UInt8)) : Int := if k = 0 ∨ k = 1 ∨ k = 4 then (match l with | [] => 0 | c :: _ => (valS c).1) else 0
def candS (k : Int) (l : List (List UInt8)) : Int := if k = 1 then (match l with | _ :: d :: _ => (valS d).1 | _ => 0) else 0
theorem goodE_eta (x : Entry) : x = ⟨x.kind, x.name, x.count, x.strokes⟩ := rfl
theorem val_of {n : Int} (h0 : 0 ≤ n) (h1 : n ≤ 1048576) : (valS (Lib.decDigits n.toNat)).1 = n := by
  rw [valS_dec (by omega)]
  omega
theorem cand_toks {x : Entry} (e : GoodE x) : ∃ r, toks x = wordOf x.kind :: x.name :: r ∧ candC x.kind r = x.count ∧ candS x.kind r = x.strokes := by
  refine ⟨_, rfl, ?_, ?_⟩
  · unfold candC
    by_cases h : x.kind = 0 ∨ x.kind = 1 ∨ x.kind = 4
    · rw [if_pos h, if_pos h]
      obtain ⟨h0, h1⟩ := e.cn h
      exact val_of (by omega) h1
    · rw [if_neg h]
      exact (e.cz h).symm
  · unfold candS
    by_cases h : x.kind = 1
    · obtain ⟨h0, h1⟩ := e.sn h
      rw [if_pos h, if_pos h, if_pos (.inr (.inl h))]
      exact val_of h0 h1
    · rw [if_neg h]
      exact (e.sz h).symm
theorem split_text {x : Entry} (e : GoodE x) : Lib.split (textS x) [32] = toks x := split_join (toks x) (by simp [toks]) (fun t ht => (toks_ok e t ht).1)
theorem fields_text {x : Entry} (e : GoodE x) : fieldsGo [] [] (textS x) = toks x :=
  (fields_join (toks x) [] (toks_ok e)).trans (List.nil_append _)
theorem text_len {x : Entry} (e : GoodE x) : (textS x).length ≤ 60 := (text_at x e).2.2
/-- what is told of a reading -/
def ReadP (s : List UInt8) (r : Entry × Int) : Prop := (r.2 = 0 → GoodE r.1 ∧ textS r.1 = s) ∧ (r.2 ≠ 0 → r = (Entry.mk 0 [] 0 0, 4)) ∧ ∀ x, GoodE x → textS x = s → r = (x, 0)
theorem at?_one {α : Type} (a b : α) (r : List α) : at? (a :: b :: r) 1 = some b := rfl
theorem at?_two {α : Type} (a b c : α) (r : List α) : at? (a :: b :: c :: r) 2 = some c := rfl
theorem at?_three {α : Type} (a b c d : α) (r : List α) : at? (a :: b :: c :: d :: r) 3 = some d := rfl
theorem jread_eq (s : List UInt8) (hs : s.length ≤ 4096) : ∃ r, journal_Read s = some r ∧ ReadP s r := by
  have hsp : splitS s [32] = some (Lib.split s [32]) := by
    unfold splitS
    rw [if_pos ⟨by omega, by simp⟩, split_eq]
  obtain ⟨w0, rest, hw⟩ := List.exists_cons_of_ne_nil (split_ne s [32])
  have hlen : ∀ t ∈ w0 :: rest, t.length ≤ 4611686018427387904 := fun t ht => by
    have := split_len (s := s) (sep := [32]) (by rw [hw]; exact ht)
    omega
  unfold journal_Read
  rw [if_neg (show ¬ (decide ((s.length : Int) > 4096) = true) by rw [decide_eq_true_eq]; omega), hsp, Option.bind_some, hw]
  simp only [joinK]
  rw [show (Int.toNat (6 - 0) + 1) = 7 from rfl, jread_loop]
  have none' : ∀ x, GoodE x → textS x = s → ∃ r, kindS w0 = x.kind ∧ rest = x.name :: r ∧ candC x.kind r = x.count ∧ candS x.kind r = x.strokes := fun x e ht => by
    obtain ⟨r, h1, h2, h3⟩ := cand_toks e
    have h4 := split_text e
    rw [ht, hw, h1] at h4
    cases h4
    exact ⟨r, kind_word e.k0 e.k1, rfl, h2, h3⟩
  by_cases hk : kindS w0 = -1
  · rw [if_pos hk]
    refine ⟨(Entry.mk 0 [] 0 0, 4), by simp, fun q => absurd q (by decide), fun _ => rfl, fun x e ht => ?_⟩
    obtain ⟨r, h1, _⟩ := none' x e ht
    have := e.k0
    omega
  · rw [if_neg hk]
    have hk2 : kindS w0 = 0 ∨ kindS w0 = 1 ∨ kindS w0 = 2 ∨ kindS w0 = 3 ∨ kindS w0 = 4 ∨ kindS w0 = 5 := by
      rcases kind_cases w0 with h | h
      · exact absurd h hk
      · exact h
    cases rest with
    | nil =>
      refine ⟨(Entry.mk 0 [] 0 0, 4), by simp, fun q => absurd q (by decide), fun _ => rfl, fun x e ht => ?_⟩
      obtain ⟨r, _, h2, _⟩ := none' x e ht
      cases h2
    | cons w1 r =>
      have hend := jread_end ⟨kindS w0, w1, candC (kindS w0) r, candS (kindS w0) r⟩ s (hlen w1 (by simp))
      obtain ⟨rJ, e1, e2, e3, e4⟩ := hend
      refine ⟨rJ, ?_, fun q => ?_, e3, fun x e ht => ?_⟩
      · rw [← e1]
        have c1 : (decide (kindS w0 < 0) || decide ((((w0 :: w1 :: r : List (List UInt8)).length : Nat) : Int) < 2)) = false := by
          rw [Bool.or_eq_false_iff]
          exact ⟨decide_eq_false (by omega), decide_eq_false (by simp only [List.length_cons]; omega)⟩
        rw [if_neg (by rw [c1]; decide), at?_one, Option.bind_some]
        have v : ∀ t ∈ r, lexer_Value t = some (valS t) := fun t ht => lval_eq t (hlen t (by simp [ht]))
        have l3 : (((w0 :: w1 :: ([] : List (List UInt8))).length : Nat) : Int) = 2 := rfl
        cases r with
        | nil =>
          rcases hk2 with h | h | h | h | h | h <;> simp [h, candC, candS]
        | cons w2 r =>
          have v2 := v w2 (by simp)
          have d2 : decide ((((w0 :: w1 :: w2 :: r : List (List UInt8)).length : Nat) : Int) > 2) = true := decide_eq_true (by simp only [List.length_cons]; omega)
          cases r with
          | nil =>
            have d3 : decide ((((w0 :: w1 :: w2 :: [] : List (List UInt8)).length : Nat) : Int) > 3) = false := rfl
            rcases hk2 with h | h | h | h | h | h <;> simp only [h, d2, d3, at?_two, v2, Option.bind_some, candC, candS] <;> rfl
          | cons w3 r =>
            have v3 := v w3 (by simp)
            have d3 : decide ((((w0 :: w1 :: w2 :: w3 :: r : List (List UInt8)).length : Nat) : Int) > 3) = true := decide_eq_true (by simp only [List.length_cons]; omega)
            rcases hk2 with h | h | h | h | h | h <;> simp only [h, d2, d3, at?_two, at?_three, v2, v3, Option.bind_some, candC, candS] <;> rfl
      · obtain ⟨h1, h2, h3⟩ := e2 q
        rw [h1]
        exact ⟨h2, h3⟩
      · obtain ⟨r', h1, h2, h3, h4⟩ := none' x e ht
        cases h2
        have hx : (⟨kindS w0, x.name, candC (kindS w0) r, candS (kindS w0) r⟩ : Entry) = x := by rw [h1, h3, h4]
        rw [hx] at e4
        exact e4 e ht
theorem rread_tail (l : List (List UInt8)) (k : Int → List UInt8 → Int → Int → Option (Entry × Int)) (hb : l.length ≤ 4611686018427387904) (a : Int) (b : List UInt8) (c d : Int) : ∀ (r pre : List (List UInt8)), l = pre ++ r → 4 ≤ pre.length →
    ref58_Read_loop1 l k (r.length + 1) (pre.length : Int) a b c d = k a b c d
  | [], pre, e, h4 => by
    unfold ref58_Read_loop1
    rw [e, ge_end]
    simp
  | x :: r, pre, e, h4 => by
    unfold ref58_Read_loop1 joinK
    have n0 : ((pre.length : Int) == 0) = false := by rw [beq_eq_false_iff_ne]; omega
    have n1 : ((pre.length : Int) == 1) = false := by rw [beq_eq_false_iff_ne]; omega
    have n2 : ((pre.length : Int) == 2) = false := by rw [beq_eq_false_iff_ne]; omega
    have n3 : ((pre.length : Int) == 3) = false := by rw [beq_eq_false_iff_ne]; omega
    rw [e, lt_mid, if_pos rfl, wrap_mid (x := x) (r := r) (by rw [← e]; exact hb), ← e]
    simp only [n0, n1, n2, n3, Bool.false_eq_true, if_false]
    exact rread_tail l k hb a b c d r (pre ++ [x]) (by rw [e, mid_cons]) (by simp; omega)
theorem rread_eq (s : List UInt8) (hs : s.length ≤ 4096) : ∃ r, ref58_Read s = some r ∧ ReadP s r := by
  have hlen : ∀ t ∈ fieldsGo [] [] s, t.length ≤ 4611686018427387904 := fun t ht => by
    have := fields_len s [] [] s.length (by simp) (by simp) t ht
    omega
  have hcount : (fieldsGo [] [] s).length ≤ 4611686018427387904 := by
    have : ∀ (r last : List UInt8) (acc : List (List UInt8)), (fieldsGo last acc r).length ≤ acc.length + r.length + 1 := by
      intro r
      induction r with
      | nil => intro last acc; rw [fieldsGo]; split <;> simp
      | cons b r ih =>
        intro last acc
        rw [fieldsGo]
        split
        · refine Nat.le_trans (ih _ _) ?_
          have : (if last = [] then acc else acc ++ [last]).length ≤ acc.length + 1 := by split <;> simp
          rw [List.length_cons]
          omega
        · refine Nat.le_trans (ih _ _) ?_
          rw [List.length_cons]; omega
    have := this s [] []
    simp at this
    omega
  unfold ref58_Read
  rw [if_neg (show ¬ (decide ((s.length : Int) > 4096) = true) by rw [decide_eq_true_eq]; omega), fields_eq s (by omega), Option.bind_some]
  have none' : ∀ x, GoodE x → textS x = s → ∃ w0 r, fieldsGo [] [] s = w0 :: x.name :: r ∧ kindS w0 = x.kind ∧ candC x.kind r = x.count ∧ candS x.kind r = x.strokes ∧ toks x = w0 :: x.name :: r := fun x e ht => by
    obtain ⟨r, h1, h2, h3⟩ := cand_toks e
    have h4 := fields_text e
    rw [ht] at h4
    exact ⟨_, r, by rw [h4, h1], kind_word e.k0 e.k1, h2, h3, h1⟩
  have v : ∀ t ∈ fieldsGo [] [] s, ref12_Value t = some (valS t) := fun t ht => rval_eq t (hlen t ht)
  generalize hl : fieldsGo [] [] s = l at *
  simp only [joinK]
  rw [fuel0]
  -- the entry that is put together
  have fin : ∀ x : Entry, x.name.length ≤ 4611686018427387904 → (∀ y, GoodE y → textS y = s → x = y) → ∃ r, ((ref58_Text x).bind fun r5 => if ((r5.2 != 0) || (!(r5.1 == s))) = true then some (Entry.mk 0 [] 0 0, 4) else some (x, 0)) = some r ∧ ReadP s r := fun x hn hx => by
    obtain ⟨rJ, e1, e2, e3, e4⟩ := rread_end x s hn
    refine ⟨rJ, e1, fun q => ?_, e3, fun y e ht => ?_⟩
    · obtain ⟨h1, h2, h3⟩ := e2 q
      rw [h1]
      exact ⟨h2, h3⟩
    · have := hx y e ht
      subst this
      exact e4 e ht
  cases l with
  | nil =>
    refine (fin ⟨-1, [], 0, 0⟩ (by simp) (fun y e ht => ?_)).imp fun r h => ⟨(show _ from ?_), h.2⟩
    · obtain ⟨w0, r, h, _⟩ := none' y e ht
      cases h
    · rw [← h.1]; rfl
  | cons w0 l =>
    cases l with
    | nil =>
      refine (fin ⟨kindS w0, [], 0, 0⟩ (by simp) (fun y e ht => ?_)).imp fun r h => ⟨(show _ from ?_), h.2⟩
      · obtain ⟨w0, r, h, _⟩ := none' y e ht
        cases h
      · rw [← h.1]
        simp only [List.length_cons, List.length_nil, Nat.zero_add]
        rw [ref58_Read_loop1]
        simp only [joinK, List.length_cons, List.length_nil, Nat.zero_add, show decide ((0 : Int) < ((1 : Nat) : Int)) = true from rfl, if_true, BEq.rfl, show (Int.toNat (6 - 0) + 1) = 7 from rfl, rread_loop2]
        rw [ref58_Read_loop1]
        simp [wrap01]
    | cons w1 l =>
      cases l with
      | nil =>
        refine (fin ⟨kindS w0, w1, 0, 0⟩ (hlen w1 (by simp)) (fun y e ht => ?_)).imp fun r h => ⟨(show _ from ?_), h.2⟩
        · obtain ⟨u0, r, h, hk, hc, hs, _⟩ := none' y e ht
          cases h
          rw [goodE_eta y, ← hc, ← hs, hk]
          simp [candC, candS]
        · rw [← h.1]
          simp only [List.length_cons, List.length_nil, Nat.zero_add]
          rw [ref58_Read_loop1]
          simp only [joinK, List.length_cons, List.length_nil, Nat.zero_add, show decide ((0 : Int) < ((1 + 1 : Nat) : Int)) = true from rfl, if_true, BEq.rfl, show (Int.toNat (6 - 0) + 1) = 7 from rfl, rread_loop2]
          rw [ref58_Read_loop1]
          simp [wrap01, wrap11, joinK, at?_one, ref58_Read_loop1]
      | cons w2 l =>
        cases l with
        | nil =>
          refine (fin ⟨kindS w0, w1, (valS w2).1, 0⟩ (hlen w1 (by simp)) (fun y e ht => ?_)).imp fun r h => ⟨(show _ from ?_), h.2⟩
          · obtain ⟨u0, r, h, hk, hc, hs, htk⟩ := none' y e ht
            cases h
            rw [goodE_eta y, ← hc, ← hs, hk]
            have : y.kind = 0 ∨ y.kind = 1 ∨ y.kind = 4 := by
              apply Decidable.byContradiction
              intro q
              have h1 : y.kind ≠ 1 := fun q2 => q (.inr (.inl q2))
              have h2 : ¬ (y.kind = 0 ∨ y.kind = 4) := fun q2 => q (by rcases q2 with h | h <;> simp [h])
              simp [toks, q, h1, h2] at htk
            simp [candC, candS, this]
          · rw [← h.1]
            simp only [List.length_cons, List.length_nil, Nat.zero_add]
            rw [ref58_Read_loop1]
            simp only [joinK, List.length_cons, List.length_nil, Nat.zero_add, show decide ((0 : Int) < ((1 + 1 + 1 : Nat) : Int)) = true from rfl, if_true, BEq.rfl, show (Int.toNat (6 - 0) + 1) = 7 from rfl, rread_loop2]
            rw [ref58_Read_loop1]
            simp [wrap01, wrap11, wrap21, joinK, at?_one, at?_two, ref58_Read_loop1, v w2]
        | cons w3 l =>
          refine (fin ⟨kindS w0, w1, (valS w2).1, (valS w3).1⟩ (hlen w1 (by simp)) (fun y e ht => ?_)).imp fun r h => ⟨(show _ from ?_), h.2⟩
          · obtain ⟨u0, r, h, hk, hc, hs, htk⟩ := none' y e ht
            cases h
            rw [goodE_eta y, ← hc, ← hs, hk]
            have h1 : y.kind = 1 := by
              apply Decidable.byContradiction
              intro q
              simp only [toks, q, if_false, List.append_nil] at htk
              split at htk <;> simp at htk
            simp [candC, candS, h1]
          · rw [← h.1]
            have tl := fun k a b c d => rread_tail (w0 :: w1 :: w2 :: w3 :: l) k hcount a b c d l [w0, w1, w2, w3] rfl (by simp)
            simp only [List.length_cons, List.length_nil, Nat.zero_add] at tl
            have p0 : ∀ m k, ref58_Read_loop1 (w0 :: w1 :: w2 :: w3 :: l) k (m + 1) 0 (-1) [] 0 0 = ref58_Read_loop1 (w0 :: w1 :: w2 :: w3 :: l) k m 1 (kindS w0) [] 0 0 := fun m k => by
              have d : decide ((0 : Int) < (((w0 :: w1 :: w2 :: w3 :: l).length : Nat) : Int)) = true := decide_eq_true (by simp only [List.length_cons]; omega)
              rw [ref58_Read_loop1]
              simp only [joinK, d, if_true, BEq.rfl, show (Int.toNat (6 - 0) + 1) = 7 from rfl, rread_loop2, show IntKind.wrap .i64 (0 + 1) = 1 from wrap01]
            have p1 : ∀ m k a, ref58_Read_loop1 (w0 :: w1 :: w2 :: w3 :: l) k (m + 1) 1 a [] 0 0 = ref58_Read_loop1 (w0 :: w1 :: w2 :: w3 :: l) k m 2 a w1 0 0 := fun m k a => by
              have d : decide ((1 : Int) < (((w0 :: w1 :: w2 :: w3 :: l).length : Nat) : Int)) = true := decide_eq_true (by simp only [List.length_cons]; omega)
              rw [ref58_Read_loop1]
              simp only [joinK, d, if_true, show ((1 : Int) == 0) = false from rfl, BEq.rfl, Bool.false_eq_true, if_false, at?_one, Option.bind_some, show IntKind.wrap .i64 (1 + 1) = 2 from wrap11]
            have p2 : ∀ m k a, ref58_Read_loop1 (w0 :: w1 :: w2 :: w3 :: l) k (m + 1) 2 a w1 0 0 = ref58_Read_loop1 (w0 :: w1 :: w2 :: w3 :: l) k m 3 a w1 (valS w2).1 0 := fun m k a => by
              have d : decide ((2 : Int) < (((w0 :: w1 :: w2 :: w3 :: l).length : Nat) : Int)) = true := decide_eq_true (by simp only [List.length_cons]; omega)
              rw [ref58_Read_loop1]
              simp only [joinK, d, if_true, show ((2 : Int) == 0) = false from rfl, show ((2 : Int) == 1) = false from rfl, BEq.rfl, Bool.false_eq_true, if_false, at?_two, v w2 (by simp), Option.bind_some, show IntKind.wrap .i64 (2 + 1) = 3 from wrap21]
            have p3 : ∀ m k a, ref58_Read_loop1 (w0 :: w1 :: w2 :: w3 :: l) k (m + 1) 3 a w1 (valS w2).1 0 = ref58_Read_loop1 (w0 :: w1 :: w2 :: w3 :: l) k m 4 a w1 (valS w2).1 (valS w3).1 := fun m k a => by
              have d : decide ((3 : Int) < (((w0 :: w1 :: w2 :: w3 :: l).length : Nat) : Int)) = true := decide_eq_true (by simp only [List.length_cons]; omega)
              rw [ref58_Read_loop1]
              simp only [joinK, d, if_true, show ((3 : Int) == 0) = false from rfl, show ((3 : Int) == 1) = false from rfl, show ((3 : Int) == 2) = false from rfl, BEq.rfl, Bool.false_eq_true, if_false, at?_three, v w3 (by simp), Option.bind_some, show IntKind.wrap .i64 (3 + 1) = 4 from by kernel_rfl]
            show ref58_Read_loop1 (w0 :: w1 :: w2 :: w3 :: l) _ (l.length + 1 + 1 + 1 + 1 + 1) 0 (-1) [] 0 0 = _
            rw [p0, p1, p2, p3]
            exact tl _ _ _ _ _
theorem read_eq (s : List UInt8) : ∃ r, journal_Read s = some r ∧ ref58_Read s = some r ∧ (r.2 = 0 → GoodE r.1 ∧ textS r.1 = s) ∧ ∀ x, GoodE x → textS x = s → r = (x, 0) := by
  by_cases hs : s.length ≤ 4096
  · obtain ⟨a, h1, h2, h3, h4⟩ := jread_eq s hs
    obtain ⟨b, k1, k2, k3, k4⟩ := rread_eq s hs
    have e : a = b := by
      by_cases ha : a.2 = 0
      · obtain ⟨q1, q2⟩ := h2 ha
        have := k4 _ q1 q2
        rw [this, ← ha]
      · by_cases hb : b.2 = 0
        · obtain ⟨q1, q2⟩ := k2 hb
          have := h4 _ q1 q2
          rw [this] at ha
          exact absurd rfl ha
        · rw [h3 ha, k3 hb]
    subst e
    exact ⟨a, h1, k1, h2, h4⟩
  · have hd : decide ((s.length : Int) > 4096) = true := decide_eq_true (by omega)
    refine ⟨(Entry.mk 0 [] 0 0, 17), ?_, ?_, fun q => absurd q (by decide), fun x e ht => ?_⟩
    · unfold journal_Read
      rw [if_pos hd]
    · unfold ref58_Read
      rw [if_pos hd]
    · have := text_len e
      rw [ht] at this
      omega
end Go.Proofs.YtpocodofhkaddaaGreatDoor.W
