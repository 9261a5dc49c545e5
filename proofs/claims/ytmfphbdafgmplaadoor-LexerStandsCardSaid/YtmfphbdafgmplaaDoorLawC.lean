/- The plain laws of the lexer, third part: Join, Lines, Unlines; the laws LexerJoins and LexerLines. No program in sight. -/
import Derived.Test.YtmfphbdafgmplaaDoorLawB
set_option linter.unusedVariables false
set_option linter.unusedSimpArgs false
set_option maxHeartbeats 2000000
namespace Go.Proofs.YtmfphbdafgmplaaDoor.W
open Go Go.RowKit
/-! ### few tokens, few texts -/
theorem few_loop (l : List Token) (k : Option Bool) : ∀ (r pre : List Token) (m : Nat), 40 - pre.length < m → l = pre ++ r →
    ∃ c : Bool, ref12_Few_loop1 l k m (pre.length : Int) = (if c = true then k else some false) ∧ (c = true → ∀ t ∈ r.take (40 - pre.length), t.text.length ≤ 60)
  | _, _, 0, h, _ => absurd h (Nat.not_lt_zero _)
  | [], pre, m + 1, h, e => by
    refine ⟨true, ?_, fun _ t ht => by simp at ht⟩
    unfold ref12_Few_loop1
    rw [e, ge_end]
    simp
  | x :: r, pre, m + 1, h, e => by
    unfold ref12_Few_loop1
    by_cases h40 : pre.length < 40
    · have c40 : decide ((pre.length : Int) < 40) = true := decide_eq_true (by omega)
      rw [e, lt_mid, c40, if_pos (by rfl), at?_mid, Option.bind_some, ← e, wrap64 (by omega) (by omega)]
      obtain ⟨c, h1, h2⟩ := few_loop l k r (pre ++ [x]) m (by simp; omega) (by rw [e, mid_cons])
      have e1 : (((pre ++ [x]).length : Nat) : Int) = (pre.length : Int) + 1 := by simp
      rw [e1] at h1
      by_cases hx : x.text.length ≤ 60
      · refine ⟨c, by rw [if_neg (by simp; omega), h1], fun hc t ht => ?_⟩
        rw [show 40 - pre.length = (40 - (pre ++ [x]).length) + 1 by simp; omega, List.take_succ_cons] at ht
        rcases List.mem_cons.1 ht with rfl | ht
        · exact hx
        · exact h2 hc t ht
      · exact ⟨false, by rw [if_pos (by simp; omega)]; rfl, fun h => by cases h⟩
    · have c40 : decide ((pre.length : Int) < 40) = false := decide_eq_false (by omega)
      refine ⟨true, by rw [c40, Bool.and_false]; rfl, fun _ t ht => ?_⟩
      rw [show 40 - pre.length = 0 by omega] at ht
      simp at ht
theorem few_eq (l : List Token) : ∃ b, ref12_Few l = some b ∧ (b = true → (l.length ≤ 40 ∧ ∀ t ∈ l, t.text.length ≤ 60) ∨ (4097 < l.length ∧ l.length < 8192)) := by
  unfold ref12_Few joinK
  obtain ⟨c, h1, h2⟩ := few_loop l (some ((decide ((l.length : Int) ≤ 40)) || ((decide ((l.length : Int) > 4097)) && (decide ((l.length : Int) < 8192))))) l [] 42 (by simp) rfl
  refine ⟨c && ((decide ((l.length : Int) ≤ 40)) || ((decide ((l.length : Int) > 4097)) && (decide ((l.length : Int) < 8192)))), by refine Eq.trans h1 ?_; cases c <;> rfl, fun h => ?_⟩
  simp only [Bool.and_eq_true, Bool.or_eq_true, decide_eq_true_eq] at h
  obtain ⟨hc, h | h⟩ := h
  · refine .inl ⟨by omega, ?_⟩
    have := h2 hc
    rwa [List.take_of_length_le (by simp; omega)] at this
  · exact .inr ⟨by omega, by omega⟩
theorem fewX_loop (l : List (List UInt8)) (k : Option Bool) : ∀ (r pre : List (List UInt8)) (m : Nat), 40 - pre.length < m → l = pre ++ r →
    ∃ c : Bool, ref12_FewTexts_loop1 l k m (pre.length : Int) = (if c = true then k else some false) ∧ (c = true → ∀ t ∈ r.take (40 - pre.length), t.length ≤ 200)
  | _, _, 0, h, _ => absurd h (Nat.not_lt_zero _)
  | [], pre, m + 1, h, e => by
    refine ⟨true, ?_, fun _ t ht => by simp at ht⟩
    unfold ref12_FewTexts_loop1
    rw [e, ge_end]
    simp
  | x :: r, pre, m + 1, h, e => by
    unfold ref12_FewTexts_loop1
    by_cases h40 : pre.length < 40
    · have c40 : decide ((pre.length : Int) < 40) = true := decide_eq_true (by omega)
      rw [e, lt_mid, c40, if_pos (by rfl), at?_mid, Option.bind_some, ← e, wrap64 (by omega) (by omega)]
      obtain ⟨c, h1, h2⟩ := fewX_loop l k r (pre ++ [x]) m (by simp; omega) (by rw [e, mid_cons])
      have e1 : (((pre ++ [x]).length : Nat) : Int) = (pre.length : Int) + 1 := by simp
      rw [e1] at h1
      by_cases hx : x.length ≤ 200
      · refine ⟨c, by rw [if_neg (by simp; omega), h1], fun hc t ht => ?_⟩
        rw [show 40 - pre.length = (40 - (pre ++ [x]).length) + 1 by simp; omega, List.take_succ_cons] at ht
        rcases List.mem_cons.1 ht with rfl | ht
        · exact hx
        · exact h2 hc t ht
      · exact ⟨false, by rw [if_pos (by simp; omega)]; rfl, fun h => by cases h⟩
    · have c40 : decide ((pre.length : Int) < 40) = false := decide_eq_false (by omega)
      refine ⟨true, by rw [c40, Bool.and_false]; rfl, fun _ t ht => ?_⟩
      rw [show 40 - pre.length = 0 by omega] at ht
      simp at ht
theorem fewX_eq (l : List (List UInt8)) : ∃ b, ref12_FewTexts l = some b ∧ (b = true → l.length ≤ 40 ∧ ∀ t ∈ l, t.length ≤ 200) := by
  unfold ref12_FewTexts joinK
  obtain ⟨c, h1, h2⟩ := fewX_loop l (some (decide ((l.length : Int) ≤ 40))) l [] 42 (by simp) rfl
  refine ⟨c && decide ((l.length : Int) ≤ 40), by refine Eq.trans h1 ?_; cases c <;> rfl, fun h => ?_⟩
  simp only [Bool.and_eq_true, decide_eq_true_eq] at h
  refine ⟨by omega, ?_⟩
  have := h2 h.1
  rwa [List.take_of_length_le (by simp; omega)] at this
/-! ### Join -/
def tchk (t : Token) (last : Bool) : Int :=
  if t.kind = 0 then word t.text else if t.kind = 1 then num t.text else if t.kind = 2 then (match t.text with | [b] => if signB b = true then 0 else 3 | _ => 3)
  else if t.kind = 3 then (if last = false then 9 else if t.text = [] then 0 else 3) else 1
theorem cls_sign (b : UInt8) : (cls b != 4) = !(signB b) := by
  have h : ((List.range 256).all fun n => (cls n.toUInt8 != 4) == !(signB n.toUInt8)) = true := by kernel_rfl
  have := List.all_eq_true.1 h b.toNat (List.mem_range.2 (UInt8.toNat_lt b))
  have e : b.toNat.toUInt8 = b := by simp
  rw [e, beq_iff_eq] at this
  exact this
theorem jchk_eq (t : Token) (last : Bool) (h : t.text.length ≤ 4611686018427387904) : lexer_check t last = some (tchk t last) := by
  obtain ⟨kind, text, a⟩ := t
  have h' : text.length ≤ 4611686018427387904 := h
  unfold lexer_check tchk joinK
  simp only [lword_eq text h', lnum_eq text h', Option.bind_some]
  by_cases h0 : kind = 0
  · simp [h0]
  · by_cases h1 : kind = 1
    · simp [h1]
    · by_cases h2 : kind = 2
      · subst h2
        match text with
        | [] => simp
        | [b] => simp [byteAt_zero, (cls_eq b).1, cls_sign]; cases signB b <;> rfl
        | b :: c :: r =>
          have : ¬ ((r.length : Int) + 1 + 1 = 1) := by omega
          simp [this]
      · by_cases h3 : kind = 3
        · subst h3
          cases last
          · simp
          · cases text <;> simp
        · simp [h0, h1, h2, h3]
theorem rchk_eq (t : Token) (last : Bool) (h : t.text.length ≤ 4611686018427387904) : ref12_token t last = some (tchk t last) := by
  obtain ⟨kind, text, a⟩ := t
  have h' : text.length ≤ 4611686018427387904 := h
  unfold ref12_token tchk
  simp only [rword_eq text h', rnum_eq text h', Option.bind_some]
  by_cases h0 : kind = 0
  · simp [h0]
  · by_cases h1 : kind = 1
    · simp [h1]
    · by_cases h2 : kind = 2
      · subst h2
        match text with
        | [] => simp
        | [b] => simp [byteAt_zero, (cls_eq b).2]; cases signB b <;> rfl
        | b :: c :: r =>
          have : ¬ ((r.length : Int) + 1 + 1 = 1) := by omega
          simp [this]
      · by_cases h3 : kind = 3
        · subst h3
          cases last
          · simp
          · cases text <;> simp
        · simp [h0, h1, h2, h3]
def errG : List Token → Int
  | [] => 0
  | t :: r => if tchk t r.isEmpty ≠ 0 then tchk t r.isEmpty else errG r
def plainT (t : Token) : Bool := t.kind == 0 || t.kind == 1
def joinG (c : Bool) : List Token → List UInt8
  | [] => []
  | t :: r => (if (c && plainT t) = true then [32] else []) ++ (t.text ++ joinG (plainT t) r)
theorem last_eq {α : Type} {l pre r : List α} {x : α} (e : l = pre ++ x :: r) (h : l.length ≤ 4611686018427387904) : ((pre.length : Int) == (IntKind.wrap .i64 ((l.length : Int) - 1))) = r.isEmpty := by
  have hl : l.length = pre.length + (r.length + 1) := by rw [e]; simp
  rw [wrap64 (by omega) (by omega)]
  cases r with
  | nil => simp at hl ⊢; omega
  | cons y r => simp at hl ⊢; omega
theorem joinG_len : ∀ (c : Bool) (r : List Token), (∀ t ∈ r, t.text.length ≤ 4096) → (joinG c r).length ≤ r.length * 4097
  | _, [], _ => by simp [joinG]
  | c, t :: r, h => by
    have := joinG_len (plainT t) r (fun u hu => h u (by simp [hu]))
    have ht := h t (by simp)
    rw [joinG]
    simp only [List.length_append, List.length_cons]
    split <;> simp <;> omega
theorem jjoin_loop (l : List Token) (k : List UInt8 → Option (List UInt8 × Int)) (hl : l.length ≤ 4097) (hx : ∀ t ∈ l, t.text.length ≤ 4096) : ∀ (r pre : List Token) (c : Bool) (acc : List UInt8), l = pre ++ r → acc.length ≤ pre.length * 4097 →
    lexer_Join_loop1 l k (r.length + 1) c (pre.length : Int) acc = if errG r ≠ 0 then some ([], errG r) else k (acc ++ joinG c r)
  | [], pre, c, acc, e, ha => by
    unfold lexer_Join_loop1
    rw [e, ge_end]
    simp [errG, joinG]
  | x :: r, pre, c, acc, e, ha => by
    have hlen : l.length = pre.length + (r.length + 1) := by rw [e]; simp
    have hxt : x.text.length ≤ 4096 := hx x (by rw [e]; simp)
    have hat : at? l (pre.length : Int) = some x := by rw [e]; exact at?_mid
    have hlt : decide ((pre.length : Int) < (l.length : Int)) = true := decide_eq_true (by omega)
    have hw : IntKind.wrap .i64 ((pre.length : Int) + 1) = (((pre ++ [x]).length : Nat) : Int) := by rw [wrap64 (by omega) (by omega)]; simp
    unfold lexer_Join_loop1 joinK
    dsimp only
    rw [if_pos hlt, hat, Option.bind_some, last_eq e (by omega), jchk_eq _ _ (by omega), Option.bind_some, joinG, hw]
    by_cases h : tchk x r.isEmpty = 0
    · have hb : ¬ (tchk x r.isEmpty != 0) = true := by simpa using h
      have hE : errG (x :: r) = errG r := by rw [errG, if_neg (fun q => q h)]
      rw [if_neg hb, hE]
      by_cases hc : (c && plainT x) = true
      · have hc' : (c && ((x.kind == 0) || (x.kind == 1))) = true := hc
        rw [if_pos hc', if_pos hc, appO_ok (by simp; omega) (by decide), Option.bind_some, appO_ok (by simp; omega) (by decide), Option.bind_some]
        refine Eq.trans (jjoin_loop l k hl hx r (pre ++ [x]) (plainT x) ((acc ++ [32]) ++ x.text) (by rw [e, mid_cons]) (by simp; omega)) ?_
        simp
      · have hc' : ¬ (c && ((x.kind == 0) || (x.kind == 1))) = true := hc
        rw [if_neg hc', if_neg hc, appO_ok (by simp; omega) (by decide), Option.bind_some]
        refine Eq.trans (jjoin_loop l k hl hx r (pre ++ [x]) (plainT x) (acc ++ x.text) (by rw [e, mid_cons]) (by simp; omega)) ?_
        simp
    · have hE : errG (x :: r) = tchk x r.isEmpty := by rw [errG, if_pos h]
      rw [hE, if_pos (by simpa using h), if_pos h]
theorem rjoin_loop (l : List Token) (k : Option (List UInt8 × Int)) (hl : l.length ≤ 4097) (hx : ∀ t ∈ l, t.text.length ≤ 4096) : ∀ (r pre : List Token), l = pre ++ r →
    ref12_Join_loop1 l k (r.length + 1) (pre.length : Int) = if errG r ≠ 0 then some ([], errG r) else k
  | [], pre, e => by
    unfold ref12_Join_loop1
    rw [e, ge_end]
    simp [errG]
  | x :: r, pre, e => by
    have hlen : l.length = pre.length + (r.length + 1) := by rw [e]; simp
    have hxt : x.text.length ≤ 4096 := hx x (by rw [e]; simp)
    have hat : at? l (pre.length : Int) = some x := by rw [e]; exact at?_mid
    have hlt : decide ((pre.length : Int) < (l.length : Int)) = true := decide_eq_true (by omega)
    have hw : IntKind.wrap .i64 ((pre.length : Int) + 1) = (((pre ++ [x]).length : Nat) : Int) := by rw [wrap64 (by omega) (by omega)]; simp
    unfold ref12_Join_loop1
    rw [if_pos hlt, hat, Option.bind_some, last_eq e (by omega), rchk_eq _ _ (by omega), Option.bind_some, hw]
    by_cases h : tchk x r.isEmpty = 0
    · have hb : ¬ (tchk x r.isEmpty != 0) = true := by simpa using h
      have hE : errG (x :: r) = errG r := by rw [errG, if_neg (fun q => q h)]
      rw [if_neg hb, hE]
      exact rjoin_loop l k hl hx r (pre ++ [x]) (by rw [e, mid_cons])
    · have hE : errG (x :: r) = tchk x r.isEmpty := by rw [errG, if_pos h]
      rw [hE, if_pos (by simpa using h), if_pos h]
theorem errG_kinds : ∀ {r : List Token}, errG r = 0 → ∀ t ∈ r, 0 ≤ t.kind ∧ t.kind ≤ 3
  | [], _, t, ht => by simp at ht
  | x :: r, h, t, ht => by
    rw [errG] at h
    split at h
    · rename_i q; exact absurd h q
    · rename_i q
      rcases List.mem_cons.1 ht with rfl | ht
      · have q' : tchk t r.isEmpty = 0 := Decidable.not_not.1 q
        unfold tchk at q'
        by_cases h0 : t.kind = 0
        · omega
        · by_cases h1 : t.kind = 1
          · omega
          · by_cases h2 : t.kind = 2
            · omega
            · by_cases h3 : t.kind = 3
              · omega
              · simp [h0, h1, h2, h3] at q'
      · exact errG_kinds h t ht
theorem plain_le {t : Token} (h : 0 ≤ t.kind) : decide (t.kind ≤ 1) = plainT t := by
  unfold plainT
  rw [Bool.eq_iff_iff, decide_eq_true_eq, Bool.or_eq_true, beq_iff_eq, beq_iff_eq]
  omega
def prevP (pre : List Token) : Bool := match pre.getLast? with | none => false | some t => plainT t
theorem rjoined_loop (l : List Token) (k : List UInt8 → Option (List UInt8)) (hl : l.length ≤ 4097) (hx : ∀ t ∈ l, t.text.length ≤ 4096) (hk : ∀ t ∈ l, 0 ≤ t.kind) : ∀ (r pre : List Token) (acc : List UInt8), l = pre ++ r → acc.length ≤ pre.length * 4097 →
    ref12_Joined_loop1 l k (r.length + 1) acc (pre.length : Int) = k (acc ++ joinG (prevP pre) r)
  | [], pre, acc, e, ha => by
    unfold ref12_Joined_loop1
    rw [e, ge_end]
    simp [joinG]
  | x :: r, pre, acc, e, ha => by
    have hlen : l.length = pre.length + (r.length + 1) := by rw [e]; simp
    have hxt : x.text.length ≤ 4096 := hx x (by rw [e]; simp)
    have hxk : 0 ≤ x.kind := hk x (by rw [e]; simp)
    have hat : at? l (pre.length : Int) = some x := by rw [e]; exact at?_mid
    have hlt : decide ((pre.length : Int) < (l.length : Int)) = true := decide_eq_true (by omega)
    have hw : IntKind.wrap .i64 ((pre.length : Int) + 1) = (((pre ++ [x]).length : Nat) : Int) := by rw [wrap64 (by omega) (by omega)]; simp
    have hpx : prevP (pre ++ [x]) = plainT x := by unfold prevP; simp
    unfold ref12_Joined_loop1 joinK
    dsimp only
    rw [if_pos hlt, hat]
    simp only [Option.bind_some]
    rw [hw, plain_le hxk, joinG]
    have c2 : ((if (if decide ((pre.length : Int) > 0) = true then some (plainT x) else some false).bind (fun c => some c) = some true then 1 else 0) = 0 ∨ True) := .inr trivial
    have key : ((if decide ((pre.length : Int) > 0) = true then some (plainT x) else some false).bind fun c1 => (if c1 = true then (at? l (IntKind.wrap .i64 ((pre.length : Int) - 1))).bind fun x2 => some (decide (x2.kind ≤ 1)) else some false)) = some (prevP pre && plainT x) := by
      by_cases hp : pre = []
      · subst hp; simp [prevP]
      · have hpos : 0 < pre.length := List.length_pos_iff.2 hp
        rw [if_pos (decide_eq_true (by omega)), Option.bind_some]
        cases hpl : plainT x
        · simp
        · rw [if_pos rfl, e, at?_last hp (by omega)]
          obtain ⟨y, hy⟩ : ∃ y, pre.getLast? = some y := ⟨pre.getLast hp, List.getLast?_eq_some_getLast hp⟩
          have hyk : 0 ≤ y.kind := hk y (by rw [e]; exact List.mem_append_left _ (List.mem_of_getLast? hy))
          unfold prevP
          rw [hy, Option.bind_some, plain_le hyk]
          simp
    rw [← Option.bind_assoc, key, Option.bind_some]
    by_cases hc : (prevP pre && plainT x) = true
    · rw [if_pos hc, if_pos hc, catO_small (by simp; omega), Option.bind_some, catO_small (by simp; omega), Option.bind_some]
      refine Eq.trans (rjoined_loop l k hl hx hk r (pre ++ [x]) ((acc ++ [32]) ++ x.text) (by rw [e, mid_cons]) (by simp; omega)) ?_
      rw [hpx]; simp
    · rw [if_neg hc, if_neg hc, catO_small (by omega), Option.bind_some]
      refine Eq.trans (rjoined_loop l k hl hx hk r (pre ++ [x]) (acc ++ x.text) (by rw [e, mid_cons]) (by simp; omega)) ?_
      rw [hpx]; simp
def joinR (l : List Token) : List UInt8 × Int := if 4097 < l.length then ([], 5) else if errG l ≠ 0 then ([], errG l) else if 4096 < (joinG false l).length then ([], 17) else (joinG false l, 0)
theorem jjoin_eq (l : List Token) (hx : l.length ≤ 4097 → ∀ t ∈ l, t.text.length ≤ 4096) : lexer_Join l = some (joinR l) := by
  unfold lexer_Join joinR
  by_cases h : 4097 < l.length
  · rw [if_pos (decide_eq_true (by omega)), if_pos h]
  · rw [if_neg (by rw [decide_eq_true_eq]; omega), if_neg h]
    unfold joinK
    dsimp only
    rw [fuel0]
    refine Eq.trans (jjoin_loop l _ (by omega) (hx (by omega)) l [] false [] rfl (by simp)) ?_
    by_cases he : errG l = 0
    · have hn : ¬ errG l ≠ 0 := fun q => q he
      rw [if_neg hn, if_neg hn, List.nil_append]
      by_cases hl : 4096 < (joinG false l).length
      · rw [if_pos hl, if_pos (decide_eq_true (by omega))]
      · rw [if_neg hl, if_neg (by rw [decide_eq_true_eq]; omega)]
    · have hn : errG l ≠ 0 := he
      rw [if_pos hn, if_pos hn]
theorem rjoin_eq (l : List Token) (hx : l.length ≤ 4097 → ∀ t ∈ l, t.text.length ≤ 4096) : ref12_Join l = some (joinR l) := by
  unfold ref12_Join joinR
  by_cases h : 4097 < l.length
  · rw [if_pos (decide_eq_true (by omega)), if_pos h]
  · rw [if_neg (by rw [decide_eq_true_eq]; omega), if_neg h]
    unfold joinK
    dsimp only
    rw [fuel0]
    refine Eq.trans (rjoin_loop l _ (by omega) (hx (by omega)) l [] rfl) ?_
    by_cases he : errG l = 0
    · have hn : ¬ errG l ≠ 0 := fun q => q he
      rw [if_neg hn, if_neg hn]
      have hj : ref12_Joined l = some (joinG false l) := by
        unfold ref12_Joined joinK
        dsimp only
        rw [fuel0]
        exact rjoined_loop l _ (by omega) (hx (by omega)) (fun t ht => (errG_kinds he t ht).1) l [] [] rfl (by simp)
      rw [hj, Option.bind_some]
      by_cases hl : 4096 < (joinG false l).length
      · rw [if_pos hl, if_pos (decide_eq_true (by omega))]
      · rw [if_neg hl, if_neg (by rw [decide_eq_true_eq]; omega)]
    · have hn : errG l ≠ 0 := he
      rw [if_pos hn, if_pos hn]
/-! ### Lines -/
theorem index_cut (c : UInt8) (a r : List UInt8) (h : c ∉ a) : Lib.index (a ++ c :: r) [c] = (a.length : Nat) := by
  refine Lib.index_first (by simp) ?_ (fun j hj => ?_)
  · rw [occ_one]; simp
  · rw [occ_one, List.getElem?_append_left hj, List.getElem?_eq_getElem hj, beq_eq_false_iff_ne]
    intro q
    exact h (by rw [← Option.some.inj q]; exact List.getElem_mem hj)
theorem index_no (c : UInt8) (a : List UInt8) (h : c ∉ a) : Lib.index a [c] = -1 := by
  refine Lib.index_none (fun j hj => ?_)
  rw [occ_one, beq_eq_false_iff_ne]
  intro q
  exact h (List.mem_of_getElem? q)
theorem split_eq (s sep : List UInt8) : splitL s sep = Lib.split s sep := by
  unfold splitL
  exact Lib.splitB_data _ _ _ _
theorem split_cut (c : UInt8) (a r : List UInt8) (h : c ∉ a) : Lib.split (a ++ c :: r) [c] = a :: Lib.split r [c] := by
  have hi := index_cut c a r h
  unfold Lib.split
  rw [Lib.count_hit (by simp) hi]
  have e : (a ++ c :: r).drop (a.length + ([c] : List UInt8).length) = r := by simp
  rw [e, Nat.add_comm 1, Lib.splitK, hi, if_neg (by rw [beq_iff_eq]; omega)]
  simp
theorem split_end (c : UInt8) (a : List UInt8) (h : c ∉ a) : Lib.split a [c] = [a] := by
  unfold Lib.split
  rw [Lib.count_miss (index_no c a h)]
  rfl
/-- the lines of a text, and what stands behind the last one -/
def linesGo (cur : List UInt8) (acc : List (List UInt8)) : List UInt8 → List (List UInt8) × List UInt8
  | [] => (acc, cur)
  | b :: r => if b = 10 then linesGo [] (acc ++ [cur]) r else linesGo (cur ++ [b]) acc r
theorem b10 (b : UInt8) : ((b.toNat : Int) == 10) = decide (b = 10) := by
  rw [Bool.eq_iff_iff, beq_iff_eq, decide_eq_true_eq]
  constructor
  · intro q; exact UInt8.toNat_inj.1 (by have : (10 : UInt8).toNat = 10 := rfl; omega)
  · rintro rfl; rfl
theorem rlines_loop (T : List UInt8) (k : Int → List (List UInt8) → Option (List (List UInt8) × Int)) (hT : T.length ≤ 1000000) : ∀ (r pre cur : List UInt8) (acc : List (List UInt8)), T = pre ++ (cur ++ r) → acc.length ≤ pre.length →
    ref12_Lines_loop1 T k (r.length + 1) (pre.length : Int) ((pre.length + cur.length : Nat) : Int) acc = k (((T.length - (linesGo cur acc r).2.length : Nat)) : Int) (linesGo cur acc r).1
  | [], pre, cur, acc, e, ha => by
    have hl : T.length = pre.length + cur.length := by rw [e]; simp
    unfold ref12_Lines_loop1
    rw [if_neg (by rw [decide_eq_true_eq]; omega), linesGo]
    dsimp only
    rw [show T.length - cur.length = pre.length by omega]
  | x :: r, pre, cur, acc, e, ha => by
    have hl : T.length = pre.length + (cur.length + (r.length + 1)) := by rw [e]; simp
    have hb : byteAt T ((pre.length + cur.length : Nat) : Int) = some x := by
      have := byteAt_mid (pre := pre ++ cur) (r := r) (x := x)
      rw [List.length_append] at this
      rw [e, ← List.append_assoc]
      exact this
    unfold ref12_Lines_loop1 joinK
    dsimp only
    rw [if_pos (by rw [decide_eq_true_eq]; omega), hb, Option.bind_some, b10, linesGo, wrap64 (x := ((pre.length + cur.length : Nat) : Int) + 1) (by omega) (by omega)]
    by_cases h : x = 10
    · subst h
      have hc : cut T (pre.length : Int) ((pre.length + cur.length : Nat) : Int) = some cur := by
        rw [e]
        have := cut_mid (p := pre) (q := cur) (t := 10 :: r)
        rwa [← Int.natCast_add] at this
      have q := rlines_loop T k hT r (pre ++ (cur ++ [10])) [] (acc ++ [cur]) (by rw [e]; simp) (by simp; omega)
      rw [if_pos (by simp), if_pos rfl, hc, Option.bind_some, appO_ok (by simp; omega) (by decide), Option.bind_some]
      refine Eq.trans ?_ q
      congr 1 <;> simp <;> omega
    · have q := rlines_loop T k hT r pre (cur ++ [x]) acc (by rw [e]; simp) ha
      rw [if_neg (by simpa using h), if_neg h]
      refine Eq.trans ?_ q
      congr 1
      simp
      omega
def linesR (s : List UInt8) : List (List UInt8) × Int := if (linesGo [] [] s).2 = [] then ((linesGo [] [] s).1, 0) else ([], 18)
theorem linesGo_rest : ∀ (s cur : List UInt8) (acc : List (List UInt8)), (linesGo cur acc s).2.length ≤ cur.length + s.length
  | [], cur, acc => by simp [linesGo]
  | b :: r, cur, acc => by
    rw [linesGo]
    split
    · have := linesGo_rest r [] (acc ++ [cur]); simp at this ⊢; omega
    · have := linesGo_rest r (cur ++ [b]) acc; simp at this ⊢; omega
theorem rlines_eq (s : List UInt8) (hs : s.length ≤ 1000000) : ref12_Lines s = some (linesR s) := by
  unfold ref12_Lines linesR joinK
  dsimp only
  rw [fuel0]
  have q := rlines_loop s (fun (i4 : Int) (l4 : (List (List UInt8))) => if (decide (i4 < (s.length : Int))) = true then some ([], 18) else some (l4, 0)) hs s [] [] [] rfl (Nat.le_refl _)
  refine Eq.trans q ?_
  have hr := linesGo_rest s [] []
  simp only [List.length_nil, Nat.zero_add] at hr
  by_cases h : (linesGo [] [] s).2 = []
  · rw [if_pos h, h, if_neg (by simp)]
  · have hp : 0 < (linesGo [] [] s).2.length := List.length_pos_iff.2 h
    rw [if_neg h, if_pos (by rw [decide_eq_true_eq]; omega)]
theorem linesGo_end : ∀ (body cur : List UInt8) (acc : List (List UInt8)), (10 : UInt8) ∉ cur → linesGo cur acc (body ++ [10]) = (acc ++ Lib.split (cur ++ body) [10], [])
  | [], cur, acc, h => by
    rw [List.nil_append, List.append_nil, linesGo, if_pos rfl, linesGo, split_end 10 cur h]
  | b :: r, cur, acc, h => by
    rw [List.cons_append, linesGo]
    by_cases hb : b = 10
    · subst hb
      rw [if_pos rfl, linesGo_end r [] (acc ++ [cur]) (by simp), split_cut 10 cur r h]
      simp
    · rw [if_neg hb, linesGo_end r (cur ++ [b]) acc (by simp; exact ⟨h, fun q => hb q.symm⟩)]
      simp
theorem linesGo_open : ∀ (s cur : List UInt8) (acc : List (List UInt8)) (x : UInt8), x ≠ 10 → (linesGo cur acc (s ++ [x])).2 ≠ []
  | [], cur, acc, x, h => by
    rw [List.nil_append, linesGo, if_neg h, linesGo]
    simp
  | b :: r, cur, acc, x, h => by
    rw [List.cons_append, linesGo]
    split
    · exact linesGo_open r _ _ x h
    · exact linesGo_open r _ _ x h
theorem suffix_eq (p : List UInt8) (b c : UInt8) (hp : p.length ≤ 1000000) : strings_CutSuffix (p ++ [b]) [c] = some (if b = c then (p, true) else (p ++ [b], false)) := by
  have hl : (((p ++ [b]).length : Nat) : Int) - (([c].length : Nat) : Int) = (p.length : Int) := by simp
  have hcut : cut (p ++ [b]) (p.length : Int) (((p ++ [b]).length : Nat) : Int) = some [b] := cut_from rfl
  have hcut2 : cut (p ++ [b]) 0 (p.length : Int) = some p := by rw [cut_take (by simp)]; simp
  unfold strings_CutSuffix internal_stringslite_CutSuffix internal_stringslite_HasSuffix
  rw [if_pos (by rw [decide_eq_true_eq]; simp; omega), hl, wrap64 (by omega) (by omega), hcut, hcut2]
  simp only [Option.bind_some]
  by_cases h : b = c
  · subst h; simp
  · have : ([b] == [c]) = false := by simpa using h
    rw [this, if_neg h]
    simp
theorem jlines_eq (s : List UInt8) (hs : s.length ≤ 1000000) : lexer_Lines s = some (linesR s) := by
  unfold lexer_Lines linesR
  induction s using snoc_ind with
  | h0 => rfl
  | h1 p b _ =>
    have hp : p.length ≤ 1000000 := by simp at hs; omega
    have hne : ((p ++ [b]) == []) = false := by simp
    rw [hne, if_neg (by simp), suffix_eq p b 10 hp, Option.bind_some]
    by_cases h : b = 10
    · subst h
      have hg := linesGo_end p [] [] (by simp)
      rw [hg]
      simp only [if_true, Bool.not_true, Bool.false_eq_true, if_false, List.nil_append]
      unfold splitS
      rw [if_pos ⟨by omega, by decide⟩, Option.bind_some, split_eq]
    · rw [if_neg h, if_neg (linesGo_open p [] [] b h)]
      rfl
/-! ### Unlines -/
def unlS : List (List UInt8) → List UInt8
  | [] => []
  | x :: r => x ++ [10] ++ unlS r
theorem unlS_len : ∀ (r : List (List UInt8)) (n : Nat), (∀ t ∈ r, t.length ≤ n) → (unlS r).length ≤ r.length * (n + 1)
  | [], _, _ => by simp [unlS]
  | x :: r, n, h => by
    have := unlS_len r n (fun t ht => h t (by simp [ht]))
    have hx := h x (by simp)
    rw [unlS, List.length_cons, Nat.add_mul]
    simp
    omega
theorem contains10 (x : List UInt8) (h : x.length ≤ 1000000) : strings_Contains x [10] = some (decide (10 ∈ x)) := by
  unfold strings_Contains indexS
  rw [if_pos (by omega), Option.bind_some]
  congr 1
  by_cases hx : (10 : UInt8) ∈ x
  · obtain ⟨a, r, rfl, ha⟩ : ∃ a r, x = a ++ 10 :: r ∧ (10 : UInt8) ∉ a := by
      clear h
      induction x with
      | nil => simp at hx
      | cons b t ih =>
        by_cases hb : b = 10
        · exact ⟨[], t, by rw [hb]; rfl, by simp⟩
        · have : (10 : UInt8) ∈ t := by
            rcases List.mem_cons.1 hx with q | q
            · exact absurd q.symm hb
            · exact q
          obtain ⟨a, r, e, ha⟩ := ih this
          refine ⟨b :: a, r, by rw [e]; rfl, fun q => ?_⟩
          rcases List.mem_cons.1 q with q | q
          · exact hb q.symm
          · exact ha q
    rw [index_cut 10 a r ha, decide_eq_true hx, decide_eq_true (by omega)]
  · rw [index_no 10 x hx, decide_eq_false hx]
    rfl
def unlR (l : List (List UInt8)) : List UInt8 × Int := if l.any (fun t => decide (10 ∈ t)) = true then ([], 3) else (unlS l, 0)
theorem junl_loop (l : List (List UInt8)) (k : List UInt8 → Option (List UInt8 × Int)) (hl : l.length ≤ 10000) (hx : ∀ t ∈ l, t.length ≤ 10000) : ∀ (r pre : List (List UInt8)) (acc : List UInt8), l = pre ++ r → acc.length ≤ pre.length * 10001 →
    lexer_Unlines_loop1 l k (r.length + 1) (pre.length : Int) acc = if r.any (fun t => decide (10 ∈ t)) = true then some ([], 3) else k (acc ++ unlS r)
  | [], pre, acc, e, ha => by
    unfold lexer_Unlines_loop1
    rw [e, ge_end]
    simp [unlS]
  | x :: r, pre, acc, e, ha => by
    have hlen : l.length = pre.length + (r.length + 1) := by rw [e]; simp
    have hxt : x.length ≤ 10000 := hx x (by rw [e]; simp)
    have hat : at? l (pre.length : Int) = some x := by rw [e]; exact at?_mid
    have hlt : decide ((pre.length : Int) < (l.length : Int)) = true := decide_eq_true (by omega)
    have hw : IntKind.wrap .i64 ((pre.length : Int) + 1) = (((pre ++ [x]).length : Nat) : Int) := by rw [wrap64 (by omega) (by omega)]; simp
    unfold lexer_Unlines_loop1
    rw [if_pos hlt, hat, Option.bind_some, contains10 x (by omega), Option.bind_some, List.any_cons, hw]
    by_cases h : (10 : UInt8) ∈ x
    · rw [decide_eq_true h, if_pos rfl, Bool.true_or, if_pos rfl]
    · rw [decide_eq_false h, if_neg (by simp), Bool.false_or, catO_small (by simp; omega), Option.bind_some, appO_ok (by simp; omega) (by decide), Option.bind_some]
      refine Eq.trans (junl_loop l k hl hx r (pre ++ [x]) (acc ++ (x ++ [10])) (by rw [e, mid_cons]) (by simp; omega)) ?_
      simp [unlS]
theorem junl_eq (l : List (List UInt8)) (hl : l.length ≤ 10000) (hx : ∀ t ∈ l, t.length ≤ 10000) : lexer_Unlines l = some (unlR l) := by
  unfold lexer_Unlines unlR joinK
  dsimp only
  rw [fuel0]
  refine Eq.trans (junl_loop l _ hl hx l [] [] rfl (by simp)) ?_
  split <;> simp
theorem runl_loop2 (l : List (List UInt8)) (i : Int) (x : List UInt8) (hi : at? l i = some x) (hx : x.length ≤ 10000) (k : Option (List UInt8 × Int)) : ∀ (r pre : List UInt8) (m : Nat), r.length < m → x = pre ++ r →
    ref12_Unlines_loop2 l i k m (pre.length : Int) = if (10 : UInt8) ∈ r then some ([], 3) else k
  | _, _, 0, h, _ => absurd h (Nat.not_lt_zero _)
  | [], pre, m + 1, _, e => by
    unfold ref12_Unlines_loop2
    rw [hi, Option.bind_some, e, ge_end]
    simp
  | b :: r, pre, m + 1, h, e => by
    unfold ref12_Unlines_loop2
    rw [hi, Option.bind_some, e, lt_mid, if_pos rfl, Option.bind_some, byteAt_mid, Option.bind_some]
    rw [b10, wrap_mid (x := b) (r := r) (by rw [← e]; omega)]
    by_cases hb : b = 10
    · subst hb
      simp
    · have q := runl_loop2 l i x hi hx k r (pre ++ [b]) m (by simp at h; omega) (by rw [e, mid_cons])
      rw [if_neg (by simpa using hb), q]
      have : (10 : UInt8) ∈ b :: r ↔ (10 : UInt8) ∈ r := by
        rw [List.mem_cons]
        exact ⟨fun q => q.resolve_left (fun z => hb z.symm), .inr⟩
      simp only [this]
theorem flat_len : ∀ {l : List (List UInt8)} {x : List UInt8}, x ∈ l → x.length ≤ l.flatten.length
  | y :: l, x, h => by
    rw [List.flatten_cons, List.length_append]
    rcases List.mem_cons.1 h with rfl | h
    · omega
    · have := flat_len h; omega
theorem runl_loop (l : List (List UInt8)) (k : List UInt8 → Option (List UInt8 × Int)) (hl : l.length ≤ 10000) (hx : ∀ t ∈ l, t.length ≤ 10000) : ∀ (r pre : List (List UInt8)) (acc : List UInt8), l = pre ++ r → acc.length ≤ pre.length * 10001 →
    ref12_Unlines_loop1 l k (r.length + 1) acc (pre.length : Int) = if r.any (fun t => decide (10 ∈ t)) = true then some ([], 3) else k (acc ++ unlS r)
  | [], pre, acc, e, ha => by
    unfold ref12_Unlines_loop1
    rw [e, ge_end]
    simp [unlS]
  | x :: r, pre, acc, e, ha => by
    have hlen : l.length = pre.length + (r.length + 1) := by rw [e]; simp
    have hxm : x ∈ l := by rw [e]; simp
    have hxt : x.length ≤ 10000 := hx x hxm
    have hat : at? l (pre.length : Int) = some x := by rw [e]; exact at?_mid
    have hlt : decide ((pre.length : Int) < (l.length : Int)) = true := decide_eq_true (by omega)
    have hw : IntKind.wrap .i64 ((pre.length : Int) + 1) = (((pre ++ [x]).length : Nat) : Int) := by rw [wrap64 (by omega) (by omega)]; simp
    unfold ref12_Unlines_loop1 joinK
    dsimp only
    rw [if_pos hlt, hat, Option.bind_some]
    refine Eq.trans (runl_loop2 l _ x hat hxt _ x [] _ (by have := flat_len hxm; omega) rfl) ?_
    rw [List.any_cons, hw]
    by_cases h : (10 : UInt8) ∈ x
    · rw [if_pos h, decide_eq_true h, Bool.true_or, if_pos rfl]
    · rw [if_neg h, decide_eq_false h, Bool.false_or, catO_small (by simp; omega), Option.bind_some, catO_small (by simp; omega), Option.bind_some]
      refine Eq.trans (runl_loop l k hl hx r (pre ++ [x]) (acc ++ (x ++ [10])) (by rw [e, mid_cons]) (by simp; omega)) ?_
      simp [unlS]
theorem runl_eq (l : List (List UInt8)) (hl : l.length ≤ 10000) (hx : ∀ t ∈ l, t.length ≤ 10000) : ref12_Unlines l = some (unlR l) := by
  unfold ref12_Unlines unlR joinK
  dsimp only
  rw [fuel0]
  refine Eq.trans (runl_loop l _ hl hx l [] [] rfl (by simp)) ?_
  split <;> simp
/-! ### the laws -/
theorem eqS_loop (l : List (List UInt8)) (k : Option Bool) (hb : l.length ≤ 4611686018427387904) : ∀ (r pre : List (List UInt8)), l = pre ++ r → slices_Equal_stringstring_loop1 l l k (r.length + 1) (pre.length : Int) = k
  | [], pre, e => by
    unfold slices_Equal_stringstring_loop1
    rw [e, ge_end]
    simp
  | x :: r, pre, e => by
    unfold slices_Equal_stringstring_loop1
    rw [e, lt_mid, if_pos rfl, at?_mid, Option.bind_some, Option.bind_some, wrap_mid (x := x) (r := r) (by rw [← e]; exact hb), ← e]
    simp only [BEq.rfl, Bool.not_true, Bool.false_eq_true, if_false]
    exact eqS_loop l k hb r (pre ++ [x]) (by rw [e, mid_cons])
theorem eqS_eq (l : List (List UInt8)) (hb : l.length ≤ 4611686018427387904) : slices_Equal_stringstring l l = some true := by
  unfold slices_Equal_stringstring joinK
  dsimp only
  rw [if_neg (by simp), fuel0]
  exact eqS_loop l (some true) hb l [] rfl
theorem linesGo_len : ∀ (s cur : List UInt8) (acc : List (List UInt8)), (linesGo cur acc s).1.length ≤ acc.length + s.length
  | [], cur, acc => by simp [linesGo]
  | b :: r, cur, acc => by
    rw [linesGo]
    split
    · have := linesGo_len r [] (acc ++ [cur]); simp at this ⊢; omega
    · have := linesGo_len r (cur ++ [b]) acc; simp at this ⊢; omega
theorem linesR_len (s : List UInt8) : (linesR s).1.length ≤ s.length := by
  unfold linesR
  have := linesGo_len s [] []
  split
  · simpa using this
  · simp
theorem law_Joins (l : List Token) (s : List UInt8) (lines : List (List UInt8)) : law12_LexerJoins l s lines = some true := by
  unfold law12_LexerJoins
  obtain ⟨b1, h1, k1⟩ := few_eq l
  obtain ⟨b2, h2, k2⟩ := short_eq s
  obtain ⟨b3, h3, k3⟩ := fewX_eq lines
  rw [h1, h2, h3, awake_true]
  simp only [Option.bind_some]
  cases b1
  · simp
  · cases b2
    · simp
    · cases b3
      · simp
      · have hj : l.length ≤ 4097 → ∀ t ∈ l, t.text.length ≤ 4096 := fun h t ht => by
          rcases k1 rfl with ⟨_, q⟩ | ⟨q, _⟩
          · have := q t ht; omega
          · omega
        have hs : s.length ≤ 1000000 := by have := k2 rfl; omega
        obtain ⟨q1, q2⟩ := k3 rfl
        have hu : ∀ t ∈ lines, t.length ≤ 10000 := fun t ht => by have := q2 t ht; omega
        have hq := linesR_len s
        rw [jjoin_eq l hj, rjoin_eq l hj, jlines_eq s hs, rlines_eq s hs, junl_eq lines (by omega) hu, runl_eq lines (by omega) hu]
        simp [eqS_eq (linesR s).1 (by omega)]
theorem hasSuffix_eq (p : List UInt8) (b c : UInt8) (hp : p.length ≤ 1000000) : strings_HasSuffix (p ++ [b]) [c] = some (decide (b = c)) := by
  have hl : (((p ++ [b]).length : Nat) : Int) - (([c].length : Nat) : Int) = (p.length : Int) := by simp
  have hcut : cut (p ++ [b]) (p.length : Int) (((p ++ [b]).length : Nat) : Int) = some [b] := cut_from rfl
  unfold strings_HasSuffix internal_stringslite_HasSuffix
  rw [if_pos (by rw [decide_eq_true_eq]; simp; omega), hl, wrap64 (by omega) (by omega), hcut]
  simp only [Option.bind_some]
  by_cases h : b = c
  · subst h; simp
  · have : ([b] == [c]) = false := by simpa using h
    rw [this, decide_eq_false h]
/-- the lines of a text that is whole, put together again -/
theorem linesGo_back : ∀ (s cur : List UInt8) (acc : List (List UInt8)), (10 : UInt8) ∉ cur → (∀ t ∈ acc, (10 : UInt8) ∉ t) →
    (∀ t ∈ (linesGo cur acc s).1, (10 : UInt8) ∉ t) ∧ unlS (linesGo cur acc s).1 ++ (linesGo cur acc s).2 = unlS acc ++ cur ++ s ∧ (linesGo cur acc s).1.length = acc.length + s.count 10
  | [], cur, acc, h, ha => by simp [linesGo]; exact ha
  | b :: r, cur, acc, h, ha => by
    have usn : ∀ (a : List (List UInt8)) (c : List UInt8), unlS (a ++ [c]) = unlS a ++ (c ++ [10]) := by
      intro a c
      induction a with
      | nil => simp [unlS]
      | cons x a ih => simp [unlS, ih]
    rw [linesGo]
    by_cases hb : b = 10
    · subst hb
      rw [if_pos rfl]
      obtain ⟨h1, h2, h3⟩ := linesGo_back r [] (acc ++ [cur]) (by simp) (fun t ht => by
        rcases List.mem_append.1 ht with ht | ht
        · exact ha t ht
        · rw [List.mem_singleton.1 ht]; exact h)
      refine ⟨h1, ?_, ?_⟩
      · rw [h2, usn]; simp
      · rw [h3]; simp; omega
    · rw [if_neg hb]
      obtain ⟨h1, h2, h3⟩ := linesGo_back r (cur ++ [b]) acc (by simp; exact ⟨h, fun q => hb q.symm⟩) ha
      refine ⟨h1, ?_, ?_⟩
      · rw [h2]; simp
      · rw [h3, List.count_cons_of_ne (fun q => hb q)]
theorem law_Lines (s : List UInt8) (n : Int) (h0 : 0 ≤ n) (h1 : n ≤ 65535) : law12_LexerLines s n = some true := by
  unfold law12_LexerLines
  by_cases h : s.length > 400
  · rw [if_pos (decide_eq_true (by omega)), awake_true]
    rfl
  · have hl : s.length ≤ 400 := by omega
    have hsuf : (if (s == []) = true then some true else (strings_HasSuffix s [10]).bind fun r3 => some r3) = some ((linesR s).2 == 0) := by
      unfold linesR
      clear h
      induction s using snoc_ind with
      | h0 => rfl
      | h1 p b _ =>
        have hne : ((p ++ [b]) == []) = false := by simp
        rw [hne, if_neg (by simp), hasSuffix_eq p b 10 (by simp at hl; omega), Option.bind_some]
        by_cases hb : b = 10
        · subst hb
          rw [linesGo_end p [] [] (by simp), if_pos rfl]
          rfl
        · rw [if_neg (linesGo_open p [] [] b hb), decide_eq_false hb]
          rfl
    obtain ⟨k, hk, hk2⟩ : ∃ k : Nat, Int.tmod n ((s.length : Int) + 1) = (k : Int) ∧ k ≤ s.length := by
      rw [tmod_e n _ h0]
      have a1 := Int.emod_nonneg n (show ((s.length : Int) + 1) ≠ 0 by omega)
      have a2 := Int.emod_lt_of_pos n (show 0 < ((s.length : Int) + 1) by omega)
      exact ⟨(n % ((s.length : Int) + 1)).toNat, by omega, by omega⟩
    have hx := lastIdx_lt 10 (s.take k)
    have htl : (s.take k).length = k := by rw [List.length_take]; omega
    have hpos : posS s (k : Int) = ((((s.take k).count 10 : Nat) : Int), (k : Int) - 1 - Lib.lastIndex (s.take k) [10], 0) := by
      unfold posS
      rw [if_neg (by omega), if_neg (by omega)]
      simp
    rw [if_neg (by rw [decide_eq_true_eq]; omega), jlines_eq s (by omega), Option.bind_some, hsuf, Option.bind_some]
    rw [if_neg (by simp)]
    unfold joinK
    dsimp only
    rw [wrap64 (x := n) (by omega) (by omega), wrap64 (x := (s.length : Int) + 1) (by omega) (by omega), hk, lpos_eq, hpos, cut_take hk2]
    have hg : guardO ((s.length : Int) + 1 != 0) = some () := by unfold guardO; rw [if_pos (by simp; omega)]
    have hidx : lastIdx (s.take k) [10] = some (Lib.lastIndex (s.take k) [10]) := by unfold lastIdx; rw [if_pos (by omega)]
    rw [hg]
    unfold countS
    simp only [Option.bind_some, awake_true, hidx]
    rw [wrap64 (x := (k : Int) - 1) (by omega) (by omega), wrap64 (x := (k : Int) - 1 - Lib.lastIndex (s.take k) [10]) (by omega) (by omega)]
    by_cases he : (linesGo [] [] s).2 = []
    · obtain ⟨h1, h2, h3⟩ := linesGo_back s [] [] (by simp) (by simp)
      have hR : linesR s = ((linesGo [] [] s).1, 0) := by unfold linesR; rw [if_pos he]
      rw [he, List.append_nil] at h2
      have hu : unlS (linesGo [] [] s).1 = s := by rw [h2]; rfl
      have hmem : ∀ (l : List (List UInt8)) (t : List UInt8), t ∈ l → t.length ≤ (unlS l).length := by
        intro l t ht
        induction l with
        | nil => simp at ht
        | cons y l ih =>
          rw [unlS]
          rcases List.mem_cons.1 ht with rfl | ht
          · simp only [List.length_append]; omega
          · have := ih ht; simp only [List.length_append]; omega
      have hjl : lexer_Unlines (linesGo [] [] s).1 = some (s, 0) := by
        have hh := linesGo_len s [] []
        rw [junl_eq _ (by simp at hh; omega) (fun t ht => by have := hmem _ t ht; rw [hu] at this; omega)]
        unfold unlR
        rw [hu, if_neg]
        rw [Bool.not_eq_true, List.any_eq_false]
        intro t ht
        simpa using h1 t ht
      rw [hR]
      dsimp only
      rw [hjl, Option.bind_some, h3]
      have hcb : Lib.countByte s 10 = s.count 10 := rfl
      have hcb2 : Lib.countByte (s.take k) 10 = (s.take k).count 10 := rfl
      simp [hcb, hcb2]
    · have hR : linesR s = ([], 18) := by unfold linesR; rw [if_neg he]
      have hcb2 : Lib.countByte (s.take k) 10 = (s.take k).count 10 := rfl
      rw [hR]
      simp [hcb2]
end Go.Proofs.YtmfphbdafgmplaaDoor.W
