/- The plain laws of the lexer, fifth part: tokens stand in the text; the law LexerStands. No program in sight. -/
import Derived.Test.YtmfphbdafgmplaaDoorLawD
set_option linter.unusedVariables false
set_option linter.unusedSimpArgs false
set_option maxHeartbeats 2000000
namespace Go.Proofs.YtmfphbdafgmplaaDoor.W
open Go Go.RowKit
/-- a token of a text, no matter where -/
def Fine (t : Token) : Prop := tchk t false = 0 ∧ 0 ≤ t.kind ∧ t.kind ≤ 2
theorem tchk_any {t : Token} (h : Fine t) (b : Bool) : tchk t b = 0 := by
  obtain ⟨h1, h2, h3⟩ := h
  unfold tchk at h1 ⊢
  by_cases h0 : t.kind = 0
  · simpa [h0] using h1
  · by_cases hk : t.kind = 1
    · simpa [hk] using h1
    · have : t.kind = 2 := by omega
      simpa [this] using h1
theorem fine_cases {t : Token} (h : Fine t) : (t.kind = 0 ∧ word t.text = 0) ∨ (t.kind = 1 ∧ num t.text = 0) ∨ (t.kind = 2 ∧ ∃ c, t.text = [c] ∧ signB c = true) := by
  obtain ⟨h1, h2, h3⟩ := h
  unfold tchk at h1
  by_cases h0 : t.kind = 0
  · rw [if_pos h0] at h1; exact .inl ⟨h0, h1⟩
  · by_cases hk : t.kind = 1
    · rw [if_neg h0, if_pos hk] at h1; exact .inr (.inl ⟨hk, h1⟩)
    · have hk2 : t.kind = 2 := by omega
      rw [if_neg h0, if_neg hk, if_pos hk2] at h1
      refine .inr (.inr ⟨hk2, ?_⟩)
      split at h1
      · rename_i b hb
        split at h1
        · rename_i hs; exact ⟨b, hb, hs⟩
        · cases h1
      · cases h1
theorem word_in {s : List UInt8} (h : word s = 0) : ∃ b r, s = b :: r ∧ letter b = true ∧ (b :: r).all inner = true := by
  cases s with
  | nil => cases h
  | cons b r =>
    rw [word_cons] at h
    split at h
    · cases h
    · rename_i h1
      split at h
      · cases h
      · rename_i h2
        exact ⟨b, r, rfl, by simpa using h1, by simpa using h2⟩
theorem fine_len {t : Token} (h : Fine t) : 1 ≤ t.text.length := by
  rcases fine_cases h with ⟨_, h⟩ | ⟨_, h⟩ | ⟨_, c, h, _⟩
  · obtain ⟨b, r, e, _⟩ := word_in h; rw [e]; simp
  · have := (num_zero.1 h).1
    exact List.length_pos_iff.2 this
  · rw [h]; simp
/-- tokens that stand in a text behind a place, with blanks between them -/
def Chain (T : List UInt8) : Nat → List Token → Prop
  | e, [] => e ≤ T.length ∧ ∀ b ∈ T.drop e, blank b = true
  | e, t :: r => ∃ a : Nat, t.at_ = (a : Int) ∧ e ≤ a ∧ (∀ b ∈ (T.take a).drop e, blank b = true) ∧ a + t.text.length ≤ T.length ∧ (T.drop a).take t.text.length = t.text ∧ Fine t ∧ Chain T (a + t.text.length) r
theorem tk_fine {b : UInt8} {r : List UInt8} (h : (tk (b :: r)).2.2 = 0) (p : Int) : Fine ⟨(tk (b :: r)).1, (b :: r).take (tk (b :: r)).2.1, p⟩ := by
  unfold tk at h ⊢
  dsimp only at h ⊢
  by_cases h1 : letter b = true
  · rw [if_pos h1] at h ⊢
    dsimp only at h ⊢
    rw [take_takeWhile]
    exact ⟨by unfold tchk; simpa using h, by simp, by simp⟩
  · rw [if_neg h1] at h ⊢
    by_cases h2 : isD b = true
    · rw [if_pos h2] at h ⊢
      dsimp only at h ⊢
      rw [take_takeWhile]
      exact ⟨by unfold tchk; simpa using h, by simp, by simp⟩
    · rw [if_neg h2] at h ⊢
      by_cases h3 : signB b = true
      · rw [if_pos h3]
        exact ⟨by unfold tchk; simp [h3], by simp, by simp⟩
      · rw [if_neg h3] at h; simp at h
theorem scan_chain (T : List UInt8) : ∀ (n : Nat) (r pre : List UInt8) (e : Nat), r.length ≤ n → T = pre ++ r → e ≤ pre.length → (∀ b ∈ pre.drop e, blank b = true) → (scanS n r pre.length).2 = none → Chain T e (scanS n r pre.length).1
  | n, [], pre, e, _, eT, he, hb, _ => by
    have : (scanS n [] pre.length).1 = [] := by cases n <;> rfl
    rw [this]
    rw [List.append_nil] at eT
    subst eT
    exact ⟨he, hb⟩
  | 0, b :: r, pre, e, h, _, _, _, _ => by simp at h
  | n + 1, b :: r, pre, e, hn, eT, he, hb, hz => by
    have hn' : r.length ≤ n := by simpa using hn
    rw [scanS] at hz ⊢
    by_cases h5 : blank b = true
    · rw [if_pos h5] at hz ⊢
      have el : (pre ++ [b]).length = pre.length + 1 := by simp
      have ih := scan_chain T n r (pre ++ [b]) e hn' (by rw [eT, mid_cons]) (by omega) (fun c hc => by
        rw [List.drop_append_of_le_length he] at hc
        rcases List.mem_append.1 hc with hc | hc
        · exact hb c hc
        · rw [List.mem_singleton.1 hc]; exact h5) (by rw [el]; exact hz)
      rw [el] at ih
      exact ih
    · rw [if_neg h5] at hz ⊢
      by_cases hw : (tk (b :: r)).2.2 = 0
      · rw [if_neg (fun q => q hw)] at hz ⊢
        obtain ⟨hq1, hq2⟩ := tk_len hw
        have hq3 : (tk (b :: r)).2.1 ≤ r.length + 1 := by simpa using hq2
        have el : (pre ++ (b :: r).take (tk (b :: r)).2.1).length = pre.length + (tk (b :: r)).2.1 := by rw [List.length_append, List.length_take, Nat.min_eq_left hq2]
        have tl : ((b :: r).take (tk (b :: r)).2.1).length = (tk (b :: r)).2.1 := by rw [List.length_take, Nat.min_eq_left hq2]
        have ih := scan_chain T n ((b :: r).drop (tk (b :: r)).2.1) (pre ++ (b :: r).take (tk (b :: r)).2.1) (pre.length + (tk (b :: r)).2.1) (by rw [List.length_drop, List.length_cons]; omega) (by rw [eT, List.append_assoc, List.take_append_drop]) (by omega) (fun c hc => by
          rw [List.drop_eq_nil_of_le (by omega)] at hc; simp at hc) (by rw [el]; exact hz)
        rw [el] at ih
        have hT : T.length = pre.length + (r.length + 1) := by rw [eT]; simp
        refine ⟨pre.length, rfl, he, fun c hc => ?_, ?_, ?_, tk_fine hw _, ?_⟩
        · rw [eT, List.take_left] at hc; exact hb c hc
        · dsimp only; rw [tl]; omega
        · dsimp only; rw [tl, eT, List.drop_left]
        · dsimp only; rw [tl]; exact ih
      · rw [if_pos hw] at hz; cases hz
theorem trim_blank {l : List UInt8} (h : ∀ b ∈ l, blank b = true) : Lib.trimS l [32, 10] = [] := by
  have hd : ∀ m : List UInt8, (∀ b ∈ m, blank b = true) → m.dropWhile (([32, 10] : List UInt8).contains ·) = [] := by
    intro m hm
    induction m with
    | nil => rfl
    | cons b r ih =>
      have hb := hm b (by simp)
      have : ([32, 10] : List UInt8).contains b = true := by
        unfold blank at hb
        simpa using hb
      rw [List.dropWhile_cons, if_pos this]
      exact ih (fun c hc => hm c (by simp [hc]))
  unfold Lib.trimS Lib.trimRightS Lib.trimLeftS
  rw [hd l.reverse (fun b hb => h b (by simpa using hb))]
  rfl
theorem cut_nat {s : List UInt8} {i j : Nat} (h : i ≤ j) (hj : j ≤ s.length) : cut s (i : Int) (j : Int) = some ((s.take j).drop i) := by
  unfold cut
  rw [if_pos ⟨by omega, by omega, by omega⟩]
  congr 1
  rw [List.drop_take]
  simp
theorem stands_loop (s : List UInt8) (hs : s.length ≤ 400) (r2 : List Token × Int × Int) (k : Int → Option Bool) (hl : r2.1.length ≤ 1000) : ∀ (ts pre : List Token) (e : Nat), r2.1 = pre ++ (ts ++ [endT s]) → Chain s e ts →
    law12_LexerStands_loop1 s r2 k (ts.length + 2) (e : Int) (pre.length : Int) = k (s.length : Int)
  | [], pre, e, hr, hc => by
    obtain ⟨he, hb⟩ := hc
    have hlen : r2.1.length = pre.length + 1 := by rw [hr]; simp
    have hat : at? r2.1 (pre.length : Int) = some (endT s) := by rw [hr]; exact at?_mid
    rw [List.length_nil]
    unfold law12_LexerStands_loop1
    rw [if_pos (by rw [decide_eq_true_eq]; omega), hat, Option.bind_some]
    have e1 : (endT s).at_ = (s.length : Int) := rfl
    have e2 : (endT s).text = [] := rfl
    rw [e1, e2]
    simp only [List.length_nil, Int.natCast_zero, Int.add_zero]
    rw [wrap64 (x := (s.length : Int)) (by omega) (by omega), wrap64 (x := (pre.length : Int) + 1) (by omega) (by omega)]
    have c1 : decide ((s.length : Int) < (e : Int)) = false := decide_eq_false (by omega)
    have c2 : decide ((s.length : Int) > (s.length : Int)) = false := decide_eq_false (by omega)
    rw [c1, c2, cut_nat (Nat.le_refl _) (Nat.le_refl _), cut_nat he (Nat.le_refl _)]
    have t1 : trimS ((s.take s.length).drop e) [32, 10] = some [] := by
      unfold trimS
      rw [if_pos ⟨by simp; omega, by decide, by decide⟩, trim_blank (by rw [List.take_length]; exact hb)]
    have t2 : (s.take s.length).drop s.length = [] := by simp
    rw [t2]
    simp only [Bool.or_self, Bool.false_eq_true, if_false, Option.bind_some, t1, BEq.rfl, Bool.not_true]
    unfold law12_LexerStands_loop1
    rw [if_neg (by rw [decide_eq_true_eq]; omega)]
  | t :: ts, pre, e, hr, hc => by
    obtain ⟨a, ha, hea, hb, hin, htx, hf, hc'⟩ := hc
    have hlen : r2.1.length = pre.length + (ts.length + 2) := by rw [hr]; simp
    have hat : at? r2.1 (pre.length : Int) = some t := by rw [hr]; exact at?_mid
    rw [List.length_cons]
    unfold law12_LexerStands_loop1
    rw [if_pos (by rw [decide_eq_true_eq]; omega), hat, Option.bind_some, ha, wrap64 (x := (a : Int) + (t.text.length : Int)) (by omega) (by omega), wrap64 (x := (pre.length : Int) + 1) (by omega) (by omega)]
    have c1 : decide ((a : Int) < (e : Int)) = false := decide_eq_false (by omega)
    have c2 : decide ((a : Int) + (t.text.length : Int) > (s.length : Int)) = false := decide_eq_false (by omega)
    have e1 : (a : Int) + (t.text.length : Int) = ((a + t.text.length : Nat) : Int) := by omega
    have t3 : (s.take (a + t.text.length)).drop a = t.text := by
      rw [List.drop_take, Nat.add_sub_cancel_left]; exact htx
    rw [c1, c2, e1, cut_nat (by omega) hin, cut_nat hea (by omega), t3]
    have t1 : trimS ((s.take a).drop e) [32, 10] = some [] := by
      unfold trimS
      rw [if_pos ⟨by simp; omega, by decide, by decide⟩, trim_blank hb]
    simp only [Bool.or_self, Bool.false_eq_true, if_false, Option.bind_some, t1, BEq.rfl, Bool.not_true]
    have ih := stands_loop s hs r2 k hl ts (pre ++ [t]) (a + t.text.length) (by rw [hr]; simp) hc'
    have e2 : (((pre ++ [t]).length : Nat) : Int) = (pre.length : Int) + 1 := by simp
    rw [e2] at ih
    exact ih
/-! ### the text of the tokens -/
def strip (t : Token) : Token := { t with at_ := 0 }
theorem joinG_strip : ∀ (c : Bool) (r : List Token), joinG c (r.map strip) = joinG c r
  | _, [] => rfl
  | c, t :: r => by
    rw [List.map_cons, joinG, joinG, joinG_strip]
    rfl
theorem errG_strip : ∀ r : List Token, errG (r.map strip) = errG r
  | [] => rfl
  | t :: r => by
    have e : (r.map strip).isEmpty = r.isEmpty := by cases r <;> rfl
    rw [List.map_cons, errG, errG, errG_strip, e]
    rfl
theorem joinR_strip (l : List Token) : joinR (l.map strip) = joinR l := by
  unfold joinR
  rw [joinG_strip, errG_strip, List.length_map]
theorem joinG_end (s : List UInt8) : ∀ (c : Bool) (r : List Token), joinG c (r ++ [endT s]) = joinG c r
  | c, [] => by
    rw [List.nil_append, joinG, joinG]
    have : plainT (endT s) = false := rfl
    rw [this, Bool.and_false]
    rfl
  | c, t :: r => by
    rw [List.cons_append, joinG, joinG, joinG_end]
theorem errG_end (s : List UInt8) : ∀ r : List Token, (∀ t ∈ r, Fine t) → errG (r ++ [endT s]) = 0
  | [], _ => rfl
  | t :: r, h => by
    have h0 := tchk_any (h t (by simp)) ((r ++ [endT s]).isEmpty)
    rw [List.cons_append, errG, if_neg (fun q => q h0)]
    exact errG_end s r (fun u hu => h u (by simp [hu]))
theorem chain_fine {T : List UInt8} : ∀ {ts : List Token} {e : Nat}, Chain T e ts → ∀ t ∈ ts, Fine t
  | t :: r, e, h, u, hu => by
    obtain ⟨a, _, _, _, _, _, hf, hc⟩ := h
    rcases List.mem_cons.1 hu with rfl | hu
    · exact hf
    · exact chain_fine hc u hu
theorem chain_len {T : List UInt8} : ∀ {ts : List Token} {e : Nat} (c : Bool), Chain T e ts → (joinG c ts).length + 2 * e ≤ 2 * T.length
  | [], e, c, h => by
    have := h.1
    simp [joinG]
    omega
  | t :: r, e, c, h => by
    obtain ⟨a, _, hea, _, hin, _, hf, hc⟩ := h
    have ih := chain_len (plainT t) hc
    have := fine_len hf
    rw [joinG, List.length_append, List.length_append]
    have : (if (c && plainT t) = true then ([32] : List UInt8) else []).length ≤ 1 := by split <;> simp
    omega
theorem takeWhile_stop {p : UInt8 → Bool} : ∀ (s Y : List UInt8), s.all p = true → (Y = [] ∨ ∃ c Z, Y = c :: Z ∧ p c = false) → (s ++ Y).takeWhile p = s
  | [], Y, _, h => by
    rcases h with rfl | ⟨c, Z, rfl, hc⟩
    · rfl
    · rw [List.nil_append, List.takeWhile_cons, hc]; simp
  | b :: r, Y, hs, h => by
    rw [List.all_cons, Bool.and_eq_true] at hs
    rw [List.cons_append, List.takeWhile_cons, if_pos hs.1, takeWhile_stop r Y hs.2 h]
theorem signB_cls {c : UInt8} (h : signB c = true) : letter c = false ∧ isD c = false ∧ inner c = false ∧ blank c = false := by
  have q : ((List.range 256).all fun n => !(signB n.toUInt8) || (!(letter n.toUInt8) && !(isD n.toUInt8) && !(inner n.toUInt8) && !(blank n.toUInt8))) = true := by kernel_rfl
  have := List.all_eq_true.1 q c.toNat (List.mem_range.2 (UInt8.toNat_lt c))
  have e : c.toNat.toUInt8 = c := by simp
  rw [e, h] at this
  simpa [and_assoc] using this
theorem inner_blank {c : UInt8} (h : inner c = true) : blank c = false := by
  have q : ((List.range 256).all fun n => !(inner n.toUInt8) || !(blank n.toUInt8)) = true := by kernel_rfl
  have := List.all_eq_true.1 q c.toNat (List.mem_range.2 (UInt8.toNat_lt c))
  have e : c.toNat.toUInt8 = c := by simp
  rw [e, h] at this
  simpa using this
theorem isD_blank {c : UInt8} (h : isD c = true) : blank c = false := by
  have q : ((List.range 256).all fun n => !(isD n.toUInt8) || !(blank n.toUInt8)) = true := by kernel_rfl
  have := List.all_eq_true.1 q c.toNat (List.mem_range.2 (UInt8.toNat_lt c))
  have e : c.toNat.toUInt8 = c := by simp
  rw [e, h] at this
  simpa using this
/-- behind a plain token stands a blank, a sign, or nothing -/
theorem joinG_head : ∀ r : List Token, (∀ t ∈ r, Fine t) → joinG true r = [] ∨ ∃ c Z, joinG true r = c :: Z ∧ inner c = false ∧ isD c = false
  | [], _ => .inl rfl
  | t :: r, h => by
    refine .inr ?_
    rw [joinG]
    rcases fine_cases (h t (by simp)) with ⟨hk, _⟩ | ⟨hk, _⟩ | ⟨hk, c, ht, hs⟩
    · have : plainT t = true := by unfold plainT; rw [hk]; rfl
      rw [this]
      exact ⟨32, _, rfl, by decide, by decide⟩
    · have : plainT t = true := by unfold plainT; rw [hk]; rfl
      rw [this]
      exact ⟨32, _, rfl, by decide, by decide⟩
    · have : plainT t = false := by unfold plainT; rw [hk]; rfl
      rw [this, ht]
      obtain ⟨_, h2, h3, _⟩ := signB_cls hs
      exact ⟨c, _, rfl, h3, h2⟩
theorem rescan : ∀ (ts : List Token) (c : Bool) (n p : Nat), (∀ t ∈ ts, Fine t) → (joinG c ts).length ≤ n → ∃ ts', scanS n (joinG c ts) p = (ts', none) ∧ ts'.map strip = ts.map strip
  | [], c, n, p, _, _ => ⟨[], by cases n <;> rfl, rfl⟩
  | t :: r, c, n, p, h, hn => by
    have hf := h t (by simp)
    have hr : ∀ u ∈ r, Fine u := fun u hu => h u (by simp [hu])
    -- behind the blank
    have main : ∀ (n p : Nat), (t.text ++ joinG (plainT t) r).length ≤ n → ∃ ts', scanS n (t.text ++ joinG (plainT t) r) p = (ts', none) ∧ ts'.map strip = (t :: r).map strip := by
      intro n p hn
      have key : ∃ b w, t.text = b :: w ∧ blank b = false ∧ tk (t.text ++ joinG (plainT t) r) = (t.kind, t.text.length, 0) := by
        rcases fine_cases hf with ⟨hk, hw⟩ | ⟨hk, hw⟩ | ⟨hk, c, ht, hs⟩
        · obtain ⟨b, w, e, hl, ha⟩ := word_in hw
          have hp : plainT t = true := by unfold plainT; rw [hk]; rfl
          have hh := joinG_head r hr
          refine ⟨b, w, e, inner_blank (letter_inner hl), ?_⟩
          have ht : (t.text ++ joinG (plainT t) r).takeWhile inner = t.text := by
            rw [hp]
            refine takeWhile_stop _ _ (by rw [e]; exact ha) ?_
            rcases hh with hh | ⟨c, Z, hh, hc, _⟩
            · exact .inl hh
            · exact .inr ⟨c, Z, hh, hc⟩
          rw [e] at ht ⊢
          rw [List.cons_append] at ht ⊢
          unfold tk
          dsimp only
          rw [if_pos hl, ht, ← e, hw, hk]
        · obtain ⟨h1, h2, h3, h4⟩ := num_zero.1 hw
          have hp : plainT t = true := by unfold plainT; rw [hk]; rfl
          have hh := joinG_head r hr
          obtain ⟨b, w, e⟩ : ∃ b w, t.text = b :: w := by
            cases ht : t.text with
            | nil => exact absurd ht h1
            | cons b w => exact ⟨b, w, rfl⟩
          have hd : isD b = true := h2 b (by rw [e]; simp)
          refine ⟨b, w, e, isD_blank hd, ?_⟩
          have ht : (t.text ++ joinG (plainT t) r).takeWhile isD = t.text := by
            rw [hp]
            refine takeWhile_stop _ _ (List.all_eq_true.2 h2) ?_
            rcases hh with hh | ⟨c, Z, hh, _, hc⟩
            · exact .inl hh
            · exact .inr ⟨c, Z, hh, hc⟩
          rw [e] at ht ⊢
          rw [List.cons_append] at ht ⊢
          unfold tk
          dsimp only
          rw [if_neg (by rw [letter_isD hd]; simp), if_pos hd, ht, ← e, hw, hk]
        · obtain ⟨q1, q2, q3, q4⟩ := signB_cls hs
          refine ⟨c, [], ht, q4, ?_⟩
          rw [ht, List.cons_append]
          unfold tk
          dsimp only
          rw [if_neg (by rw [q1]; simp), if_neg (by rw [q2]; simp), if_pos hs, hk]
          rfl
      obtain ⟨b, w, e, hb, hk⟩ := key
      cases n with
      | zero => rw [e] at hn; simp at hn
      | succ n =>
        have hlen := fine_len hf
        obtain ⟨ts', h1, h2⟩ := rescan r (plainT t) n (p + t.text.length) hr (by rw [List.length_append] at hn; omega)
        refine ⟨⟨t.kind, t.text, (p : Int)⟩ :: ts', ?_, ?_⟩
        · have hd : (t.text ++ joinG (plainT t) r).drop t.text.length = joinG (plainT t) r := List.drop_left ..
          have htk : (t.text ++ joinG (plainT t) r).take t.text.length = t.text := List.take_left ..
          have e2 : t.text ++ joinG (plainT t) r = b :: (w ++ joinG (plainT t) r) := by rw [e]; rfl
          rw [e2] at hk hd htk ⊢
          rw [scanS, if_neg (by rw [hb]; simp), hk]
          dsimp only
          rw [if_neg (by simp), hd, htk, h1]
        · rw [List.map_cons, List.map_cons, h2]
          rfl
    rw [joinG] at hn ⊢
    by_cases hc : (c && plainT t) = true
    · rw [if_pos hc] at hn ⊢
      cases n with
      | zero => simp at hn
      | succ n =>
        obtain ⟨ts', h1, h2⟩ := main n (p + 1) (by simp at hn ⊢; omega)
        refine ⟨ts', ?_, h2⟩
        rw [List.singleton_append, scanS, if_pos (by decide), h1]
    · rw [if_neg hc] at hn ⊢
      rw [List.nil_append] at hn ⊢
      exact main n p hn
theorem bare_loop (l : List Token) (k : List Token → Option (List Token)) (hl : l.length ≤ 1000000) : ∀ (r pre : List Token), l = pre ++ r → law12_bare_loop1 l k (r.length + 1) (pre.length : Int) (pre.map strip ++ r) = k (l.map strip)
  | [], pre, e => by
    unfold law12_bare_loop1
    rw [e, ge_end]
    simp
  | x :: r, pre, e => by
    have hlen : l.length = pre.length + (r.length + 1) := by rw [e]; simp
    have hlt : decide ((pre.length : Int) < (l.length : Int)) = true := decide_eq_true (by omega)
    have hat : at? (pre.map strip ++ x :: r) (pre.length : Int) = some x := by
      have := at?_mid (pre := pre.map strip) (x := x) (r := r)
      rwa [List.length_map] at this
    have hset : List.set (pre.map strip ++ x :: r) (Int.toNat (pre.length : Int)) (Token.mk x.kind x.text 0) = (pre ++ [x]).map strip ++ r := by
      rw [Int.toNat_natCast, List.set_append_right _ _ (by simp)]
      simp [strip]
    unfold law12_bare_loop1
    rw [if_pos hlt, hat, Option.bind_some, hset, wrap64 (by omega) (by omega)]
    have ih := bare_loop l k hl r (pre ++ [x]) (by rw [e, mid_cons])
    have e2 : (((pre ++ [x]).length : Nat) : Int) = (pre.length : Int) + 1 := by simp
    rw [e2] at ih
    exact ih
theorem bare_eq (l : List Token) (hl : l.length ≤ 1000000) : law12_bare l = some (l.map strip) := by
  unfold law12_bare joinK
  dsimp only
  rw [appO_ok (by simp; omega) (by decide), Option.bind_some, fuel0]
  exact bare_loop l _ hl l [] rfl
theorem law_Stands (s : List UInt8) : law12_LexerStands s = some true := by
  unfold law12_LexerStands
  by_cases h : s.length > 400
  · rw [if_pos (decide_eq_true (by omega)), awake_true]
    rfl
  · have hs : s.length ≤ 400 := by omega
    rw [if_neg (by rw [decide_eq_true_eq]; omega), jscan_eq, Option.bind_some]
    have hR : scanR s = match (scanS s.length s 0).2 with | none => ((scanS s.length s 0).1 ++ [endT s], 0, 0) | some (p, e) => ([], (p : Int), e) := by
      unfold scanR; rw [if_neg (by omega)]; cases (scanS s.length s 0).2 <;> rfl
    have herr : ∀ (n : Nat) (r : List UInt8) (p : Nat) q, (scanS n r p).2 = some q → q.2 ≠ 0 := by
      intro n
      induction n with
      | zero => intro r p q hq; simp [scanS] at hq
      | succ n ih =>
        intro r p q hq
        cases r with
        | nil => simp [scanS] at hq
        | cons b r =>
          rw [scanS] at hq
          split at hq
          · exact ih _ _ _ hq
          · split at hq
            · rename_i h2
              cases hq
              exact h2
            · exact ih _ _ _ hq
    cases hz : (scanS s.length s 0).2 with
    | some q =>
      have hq := herr _ _ _ _ hz
      rw [hz] at hR
      rw [hR]
      dsimp only
      rw [if_pos (by simpa using hq), awake_true]
      rfl
    | none =>
      have hlenS := scanS_len s.length s 0
      generalize hts : (scanS s.length s 0).1 = ts at *
      rw [hz] at hR
      have hc : Chain s 0 ts := by
        have := scan_chain s s.length s [] 0 (Nat.le_refl _) rfl (Nat.le_refl _) (by simp) hz
        rwa [List.length_nil, hts] at this
      have hfine := chain_fine hc
      have hjl := chain_len false hc
      rw [hR]
      dsimp only
      rw [if_neg (by simp)]
      unfold joinK
      dsimp only
      rw [show Int.toNat ((((ts ++ [endT s]).length : Nat) : Int) - 0) + 1 = ts.length + 2 by simp]
      have q := stands_loop s hs (ts ++ [endT s], 0, 0)
      refine Eq.trans (q _ (by simp; omega) ts [] 0 rfl hc) ?_
      have htx : ∀ t ∈ ts ++ [endT s], t.text.length ≤ 4096 := by
        intro t ht
        rcases List.mem_append.1 ht with ht | ht
        · have : ∀ (ts : List Token) (e : Nat), Chain s e ts → ∀ t ∈ ts, t.text.length ≤ s.length := by
            intro ts
            induction ts with
            | nil => intro e _ t ht; simp at ht
            | cons u r ih =>
              intro e hc t ht
              obtain ⟨a, _, _, _, hin, _, _, hc⟩ := hc
              rcases List.mem_cons.1 ht with rfl | ht
              · omega
              · exact ih _ hc t ht
          have := this ts 0 hc t ht
          omega
        · rw [List.mem_singleton.1 ht]; simp [endT]
      have hJ : joinR (ts ++ [endT s]) = (joinG false ts, 0) := by
        unfold joinR
        rw [if_neg (by simp; omega), errG_end s ts hfine, if_neg (by simp), joinG_end, if_neg (by omega)]
      have hX : (joinG false ts).length ≤ 800 := by omega
      obtain ⟨ts', h1, h2⟩ := rescan ts false (joinG false ts).length 0 hfine (Nat.le_refl _)
      have hR2 : scanR (joinG false ts) = (ts' ++ [endT (joinG false ts)], 0, 0) := by
        unfold scanR
        rw [if_neg (by omega), h1]
      have hmap : (ts' ++ [endT (joinG false ts)]).map strip = (ts ++ [endT s]).map strip := by
        rw [List.map_append, List.map_append, h2]
        rfl
      have hJ2 : joinR (ts' ++ [endT (joinG false ts)]) = (joinG false ts, 0) := by
        rw [← joinR_strip, hmap, joinR_strip, hJ]
      have hlen2 : ts'.length = ts.length := by
        have := congrArg List.length h2
        simpa using this
      have htx2 : ∀ t ∈ ts' ++ [endT (joinG false ts)], t.text.length ≤ 4096 := by
        intro t ht
        have hm : strip t ∈ (ts' ++ [endT (joinG false ts)]).map strip := List.mem_map_of_mem ht
        rw [hmap] at hm
        obtain ⟨u, hu, e⟩ := List.mem_map.1 hm
        have : u.text = t.text := by
          have := congrArg Token.text e
          exact this
        rw [← this]
        exact htx u hu
      rw [jjoin_eq _ (fun _ => htx), hJ, Option.bind_some, jscan_eq, Option.bind_some, hR2]
      dsimp only
      rw [jjoin_eq _ (fun _ => htx2), hJ2, Option.bind_some]
      dsimp only
      rw [bare_eq _ (by simp; omega), bare_eq _ (by simp; omega), hmap, awake_true]
      have w0 : IntKind.wrap .i64 (IntKind.wrap .i64 ((0 : Int) + 0) + 0) = 0 := by kernel_rfl
      simp only [Option.bind_some, w0, BEq.rfl, Bool.and_self, if_true]
      rw [eqT_eq _ (by simp; omega)]
      rfl
end Go.Proofs.YtmfphbdafgmplaaDoor.W
