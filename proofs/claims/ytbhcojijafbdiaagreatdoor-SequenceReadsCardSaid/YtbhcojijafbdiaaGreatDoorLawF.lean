/- The plain laws of strokes, sixth part: texts are read back; the law StrokeReads. No program in sight. -/
import Derived.Test.YtbhcojijafbdiaaGreatDoorLawE
set_option linter.unusedVariables false
set_option linter.unusedSimpArgs false
set_option maxHeartbeats 2000000
namespace Go.Proofs.YtbhcojijafbdiaaGreatDoor.W
open Go Go.RowKit
theorem split_join (sep : List UInt8) (c : UInt8) (t : List UInt8) (hsep : sep = c :: t) : ∀ ps : List (List UInt8), ps ≠ [] → (∀ p ∈ ps, c ∉ p) → Lib.split (Lib.join ps sep) sep = ps
  | [], h, _ => absurd rfl h
  | [x], _, hx => by
    have hb : sep ≠ [] := by rw [hsep]; simp
    rw [Lib.join_one]
    refine split_miss (Lib.index_none (fun j _ => ?_))
    cases ho : Lib.occAt x sep j with
    | false => rfl
    | true =>
      have := Lib.occAt_head hsep ho
      exact absurd (List.mem_of_getElem? this) (hx x (by simp))
  | x :: y :: r, _, hx => by
    have hb : sep ≠ [] := by rw [hsep]; simp
    have ih := split_join sep c t hsep (y :: r) (by simp) (fun p hp => hx p (by simp at hp ⊢; exact .inr hp))
    have hj : Lib.join (x :: y :: r) sep = x ++ (sep ++ Lib.join (y :: r) sep) := by
      rw [Lib.join_cons, Lib.join_cons]
      unfold Lib.joinTail
      simp
    have hidx : Lib.index (Lib.join (x :: y :: r) sep) sep = (x.length : Int) := by
      rw [hj]
      refine Lib.index_first (by simp) ?_ (fun j hjl => ?_)
      · unfold Lib.occAt
        rw [List.drop_left, isPrefix_take, List.take_left]
        simp
      · cases ho : Lib.occAt (x ++ (sep ++ Lib.join (y :: r) sep)) sep j with
        | false => rfl
        | true =>
          have := Lib.occAt_head hsep ho
          rw [List.getElem?_append_left hjl] at this
          exact absurd (List.mem_of_getElem? this) (hx x (by simp))
    rw [split_hit hb hidx, hj, List.take_left, ← List.drop_drop, List.drop_left, List.drop_left, ih]
/-! ### the words of a step -/
theorem wr_bytes {y : Stroke} (h0 : 0 ≤ y.actuator) (h1 : y.actuator < 6) : ∀ b ∈ wr y, b ≠ 32 ∧ b ≠ 59 := by
  obtain ⟨n, o⟩ := y
  have h0' : 0 ≤ n := h0
  have h1' : n < 6 := h1
  have hn : n = 0 ∨ n = 1 ∨ n = 2 ∨ n = 3 ∨ n = 4 ∨ n = 5 := by omega
  rcases hn with rfl | rfl | rfl | rfl | rfl | rfl <;> cases o <;> decide
theorem dec_bytes (n : Nat) : ∀ b ∈ Lib.decDigits n, b ≠ 32 ∧ b ≠ 59 := fun b hb => by
  have := isD_iff.1 (dec_all n b hb)
  exact ⟨fun q => by rw [q] at this; exact absurd this.1 (by decide), fun q => by rw [q] at this; exact absurd this.2 (by decide)⟩
theorem words_bytes {x : Step} (g : GoodS x) : ∀ w ∈ words x, ∀ b ∈ w, b ≠ 32 ∧ b ≠ 59 := by
  intro w hw
  unfold words at hw
  rcases List.mem_append.1 hw with hw | hw
  · obtain ⟨y, hy, rfl⟩ := List.mem_map.1 hw
    obtain ⟨h0, h1, _⟩ := asc_mem g.asc y hy
    exact wr_bytes h0 h1
  · split at hw
    · rw [List.mem_singleton.1 hw]; exact dec_bytes _
    · simp at hw
theorem words_ne {x : Step} (g : GoodS x) : words x ≠ [] := by
  unfold words
  have := g.ne
  cases h : x.strokes with
  | nil => exact absurd h this
  | cons y r => simp
theorem split_line {x : Step} (g : GoodS x) : Lib.split (lineS x) [32] = words x :=
  split_join [32] 32 [] rfl (words x) (words_ne g) (fun p hp q => (words_bytes g p hp 32 q).1 rfl)
theorem joinTail_mem {sep : List UInt8} {b : UInt8} : ∀ {r : List (List UInt8)}, b ∈ Lib.joinTail sep r → b ∈ sep ∨ ∃ w ∈ r, b ∈ w
  | [], h => by simp [Lib.joinTail] at h
  | x :: r, h => by
    have e : Lib.joinTail sep (x :: r) = sep ++ (x ++ Lib.joinTail sep r) := by unfold Lib.joinTail; simp
    rw [e] at h
    rcases List.mem_append.1 h with h | h
    · exact .inl h
    · rcases List.mem_append.1 h with h | h
      · exact .inr ⟨x, by simp, h⟩
      · rcases joinTail_mem h with h | ⟨w, h1, h2⟩
        · exact .inl h
        · exact .inr ⟨w, by simp [h1], h2⟩
theorem join_mem {sep : List UInt8} {b : UInt8} {l : List (List UInt8)} (h : b ∈ Lib.join l sep) : b ∈ sep ∨ ∃ w ∈ l, b ∈ w := by
  cases l with
  | nil => simp [Lib.join_nil] at h
  | cons x r =>
    rw [Lib.join_cons] at h
    rcases List.mem_append.1 h with h | h
    · exact .inr ⟨x, by simp, h⟩
    · rcases joinTail_mem h with h | ⟨w, h1, h2⟩
      · exact .inl h
      · exact .inr ⟨w, by simp [h1], h2⟩
theorem line_no59 {x : Step} (g : GoodS x) : (59 : UInt8) ∉ lineS x := by
  intro h
  rcases join_mem h with h | ⟨w, h1, h2⟩
  · simp at h
  · exact (words_bytes g w h1 59 h2).2 rfl
theorem split_text {l : List Step} (hl : l ≠ []) (hg : ∀ x ∈ l, GoodS x) : Lib.split (textL l) [59, 32] = l.map lineS :=
  split_join [59, 32] 59 [32] rfl (l.map lineS) (fun q => hl (List.map_eq_nil_iff.1 q)) (fun p hp => by
    obtain ⟨x, hx, rfl⟩ := List.mem_map.1 hp
    exact line_no59 (hg x hx))
/-! ### a step is read back -/
theorem okN_dec {n : Nat} (h0 : 0 < n) (h1 : n ≤ 1000000) : okN (Lib.decDigits n) = true ∧ numV (Lib.decDigits n) = n := by
  refine ⟨?_, dec_val n⟩
  have hl := dec7 h1
  have hne := dec_ne n
  have hall := dec_all n
  have hval := dec_val n
  have hlead := dec_lead n
  cases hd : Lib.decDigits n with
  | nil => exact absurd hd hne
  | cons b r =>
    rw [hd] at hl hall hval hlead
    rw [okN, decide_eq_true hl, List.all_eq_true.2 hall]
    have hb : (b == 48) = false := by
      rw [beq_eq_false_iff_ne]
      rintro rfl
      rcases hlead with h | h
      · have : r = [] := List.eq_nil_of_length_eq_zero (by rw [List.length_cons] at h; omega)
        subst this
        have : numV [48] = 0 := rfl
        omega
      · exact h rfl
    rw [hb]
    rfl
theorem readS_dec {n : Nat} (h0 : 0 < n) (h1 : n ≤ 1000000) : (readS (Lib.decDigits n)).2 = false := by
  cases h : (readS (Lib.decDigits n)).2 with
  | false => rfl
  | true =>
    obtain ⟨y, hy⟩ : ∃ y, readS (Lib.decDigits n) = (y, true) := ⟨(readS (Lib.decDigits n)).1, by rw [← h]⟩
    obtain ⟨q0, q1, hw⟩ := readS_some hy
    have hall := dec_all n
    rw [← hw] at hall
    have := isD_iff.1 (hall (UInt8.ofNat (65 + y.actuator.toNat)) (by unfold wr; simp))
    have hu : (UInt8.ofNat (65 + y.actuator.toNat)).toNat = 65 + y.actuator.toNat := by simp; omega
    omega
theorem stepW_words (W : List (List UInt8)) : ∀ (r : List Stroke) (first : Bool) (acc : List Stroke), (∀ y ∈ r, 0 ≤ y.actuator ∧ y.actuator < 6) → (r = [] → first = false ∨ W = []) →
    (W = [] ∨ ∃ n : Nat, 0 < n ∧ n ≤ 1000000 ∧ W = [Lib.decDigits n]) →
    stepW first 0 acc (r.map wr ++ W) = some ⟨acc ++ r, match W with | [] => 0 | w :: _ => ((numV w : Nat) : Int)⟩
  | [], first, acc, _, hf, hW => by
    rw [List.map_nil, List.nil_append, List.append_nil]
    rcases hW with rfl | ⟨n, h0, h1, rfl⟩
    · rw [stepW]
    · have hfirst : first = false := (hf rfl).resolve_right (by simp)
      rw [stepW, readS_dec h0 h1, if_neg (by simp), (okN_dec h0 h1).1, hfirst, if_pos (by simp)]
  | y :: r, first, acc, hy, hf, hW => by
    obtain ⟨h0, h1⟩ := hy y (by simp)
    rw [List.map_cons, List.cons_append, stepW, readS_wr h0 h1, if_pos (by simp), stepW_words W r false (acc ++ [y]) (fun z hz => hy z (by simp [hz])) (fun _ => .inl rfl) hW]
    simp
theorem stepR_line {x : Step} (g : GoodS x) : stepR (lineS x) = some x := by
  have hy : ∀ y ∈ x.strokes, 0 ≤ y.actuator ∧ y.actuator < 6 := fun y hy => by
    obtain ⟨a, b, _⟩ := asc_mem g.asc y hy
    exact ⟨a, b⟩
  have h0 := g.w0
  have h1 := g.w1
  unfold stepR
  rw [split_line g]
  unfold words
  by_cases hw : x.wait > 0
  · have e1 : decW x.wait = Lib.decDigits x.wait.toNat := rfl
    rw [if_pos hw, e1, stepW_words _ x.strokes true [] hy (fun q => absurd q g.ne) (.inr ⟨x.wait.toNat, by omega, by omega, rfl⟩)]
    dsimp only
    rw [(okN_dec (n := x.wait.toNat) (by omega) (by omega)).2, List.nil_append, Int.toNat_of_nonneg h0]
  · rw [if_neg hw, stepW_words _ x.strokes true [] hy (fun q => absurd q g.ne) (.inl rfl)]
    dsimp only
    rw [List.nil_append, show (0 : Int) = x.wait by omega]
theorem parseW_lines : ∀ (r : List Step) (off : Nat) (acc : List Step), (∀ x ∈ r, GoodS x) → acc.length + r.length ≤ 64 → parseW off acc (r.map lineS) = (acc ++ r, 0, 0)
  | [], off, acc, _, _ => by rw [List.map_nil, parseW, List.append_nil]
  | x :: r, off, acc, hg, hl => by
    have g := hg x (by simp)
    have hc := chk_zero.2 g
    rw [List.length_cons] at hl
    rw [List.map_cons, parseW, if_neg (by omega), stepR_line g]
    dsimp only
    rw [if_neg (fun q => q hc), parseW_lines r _ (acc ++ [x]) (fun z hz => hg z (by simp [hz])) (by simp; omega)]
    simp
theorem textL_ne {l : List Step} (hl : l ≠ []) (hg : ∀ x ∈ l, GoodS x) : textL l ≠ [] := by
  intro h
  have h2 : (Lib.join (l.map lineS) [59, 32]).length + 2 = offs 2 (l.map lineS) := join_offs [59, 32] (l.map lineS) (fun q => hl (List.map_eq_nil_iff.1 q))
  unfold textL at h
  rw [h] at h2
  cases l with
  | nil => exact hl rfl
  | cons x r =>
    rw [List.map_cons, offs_cons] at h2
    have g := hg x (by simp)
    have h3 : (Lib.join (words x) [32]).length + 1 = offs 1 (words x) := join_offs [32] (words x) (words_ne g)
    unfold lineS at h2
    have hw := words_ne g
    have : 3 ≤ offs 1 (words x) := by
      unfold words
      cases hs : x.strokes with
      | nil => exact absurd hs g.ne
      | cons y q =>
        rw [List.map_cons, List.cons_append, offs_cons, wr_len]
        omega
    rw [List.length_nil] at h2
    omega
theorem parse_text {l : List Step} (hg : ∀ x ∈ l, GoodS x) (hl : l.length ≤ 64) : parseR (textL l) = (l, 0, 0) := by
  have ht := text_len hg hl
  unfold parseR
  rw [if_neg (by omega)]
  by_cases h0 : l = []
  · subst h0
    rfl
  · rw [if_neg (textL_ne h0 hg), split_text h0 hg, parseW_lines l 0 [] hg (by simpa using hl), List.nil_append]
/-! ### a text is written again -/
theorem decW_num {w : List UInt8} (h : okN w = true) : decW ((numV w : Nat) : Int) = w ∧ 0 < ((numV w : Nat) : Int) := by
  cases w with
  | nil => cases h
  | cons b r =>
    rw [okN, Bool.and_eq_true, Bool.and_eq_true, decide_eq_true_eq] at h
    obtain ⟨⟨h7, h48⟩, hall⟩ := h
    have hb : b ≠ 48 := by simpa using h48
    have hd := List.all_eq_true.1 hall
    refine ⟨?_, ?_⟩
    · unfold decW
      rw [Int.toNat_natCast]
      exact dec_of_num (b :: r) (by simp) hd (.inr (by simpa using hb))
    · have hbD := isD_iff.1 (hd b (by simp))
      have : b.toNat ≠ 48 := fun q => hb (UInt8.toNat_inj.1 (by rw [q]; rfl))
      have := numV_pos (b := b) (r := r) (by omega)
      omega
theorem stepW_back : ∀ (ws : List (List UInt8)) (first : Bool) (acc : List Stroke) (x : Step), stepW first 0 acc ws = some x → words x = acc.map wr ++ ws
  | [], first, acc, x, h => by
    rw [stepW] at h
    cases h
    unfold words
    simp
  | w :: r, first, acc, x, h => by
    rw [stepW] at h
    split at h
    · rename_i q
      have hr : (readS w).2 = true := by simpa using q
      obtain ⟨y, hy⟩ : ∃ y, readS w = (y, true) := ⟨(readS w).1, by rw [← hr]⟩
      obtain ⟨_, _, hw⟩ := readS_some hy
      have ih := stepW_back r false _ x h
      rw [ih, hy]
      simp [hw]
    · split at h
      · rename_i q
        rw [Bool.and_eq_true, Bool.and_eq_true] at q
        have hr : r = [] := List.isEmpty_iff.1 q.2
        cases h
        obtain ⟨h1, h2⟩ := decW_num q.1.1
        unfold words
        dsimp only
        rw [if_pos h2, h1, hr]
      · cases h
theorem stepR_back {p : List UInt8} {x : Step} (h : stepR p = some x) : lineS x = p := by
  unfold stepR at h
  have := stepW_back _ _ _ _ h
  unfold lineS
  rw [this, List.map_nil, List.nil_append]
  exact split_back [32] (by simp) p.length p (Nat.le_refl _)
theorem parseW_back : ∀ (r : List (List UInt8)) (off : Nat) (acc : List Step), (parseW off acc r).2.2 = 0 → (∃ m, parseW off acc r = (acc ++ m, 0, 0) ∧ m.map lineS = r)
  | [], off, acc, h => ⟨[], by rw [parseW, List.append_nil], rfl⟩
  | p :: r, off, acc, h => by
    rw [parseW] at h ⊢
    split at h
    · cases h
    · rename_i h64
      rw [if_neg h64]
      cases hs : stepR p with
      | none => rw [hs] at h; cases h
      | some x =>
        rw [hs] at h
        dsimp only at h ⊢
        by_cases hc : chk x = 0
        · have hn : ¬ chk x ≠ 0 := fun q => q hc
          rw [if_neg hn] at h ⊢
          obtain ⟨m, h1, h2⟩ := parseW_back r _ _ h
          refine ⟨x :: m, by rw [h1]; simp, ?_⟩
          rw [List.map_cons, h2, stepR_back hs]
        · have hn : chk x ≠ 0 := hc
          rw [if_pos hn] at h
          exact absurd h hc
theorem format_parse {s : List UInt8} (h : (parseR s).2.2 = 0) : formatR (parseR s).1 = (s, 0) := by
  obtain ⟨h1, h2⟩ := parseR_good s
  have hE := errL_good.2 h2
  have ht : textL (parseR s).1 = s := by
    unfold parseR at h ⊢
    split at h
    · cases h
    · rename_i hl
      rw [if_neg hl]
      split at h
      · rename_i h0
        rw [if_pos h0, h0]
        rfl
      · rename_i h0
        rw [if_neg h0]
        obtain ⟨m, q1, q2⟩ := parseW_back _ _ _ h
        rw [q1]
        dsimp only
        rw [List.nil_append]
        unfold textL
        rw [q2]
        exact split_back [59, 32] (by simp) s.length s (Nat.le_refl _)
  unfold formatR
  rw [if_neg (by omega), if_neg (fun q => q hE), ht]
end Go.Proofs.YtbhcojijafbdiaaGreatDoor.W
