/- The plain laws of the lexer, fourth part: Fields; the laws LexerWords and LexerFields. No program in sight. -/
import Derived.Test.YtmfphbdafgmplaaDoorLawC
import Derived.Test.YtmfphbdafgmplaaDoorFields
set_option linter.unusedVariables false
set_option linter.unusedSimpArgs false
set_option maxHeartbeats 2000000
namespace Go.Proofs.YtmfphbdafgmplaaDoor.W
open Go Go.RowKit
/-! ### runes -/
theorem decodeN_32 (n b1 b2 b3 : Nat) : Lib.decodeN n 32 b1 b2 b3 = (32, 1) := rfl
theorem decodeN_ne {n b0 b1 b2 b3 : Nat} (h : b0 ≠ 32) : (Lib.decodeN n b0 b1 b2 b3).1 ≠ 32 ∧ (2 ≤ (Lib.decodeN n b0 b1 b2 b3).2 → b1 ≠ 32) ∧ (3 ≤ (Lib.decodeN n b0 b1 b2 b3).2 → b2 ≠ 32) ∧ (4 ≤ (Lib.decodeN n b0 b1 b2 b3).2 → b3 ≠ 32) ∧ (Lib.decodeN n b0 b1 b2 b3).2 ≤ 4 := by
  unfold Lib.decodeN
  repeat' split
  all_goals (simp only; omega)
theorem get_at {l : List UInt8} {i : Nat} (h : i < l.length) : l[i]? = some ((⟨l.toArray⟩ : ByteArray).get! i) := by
  rw [List.getElem?_eq_getElem h]
  congr 1
  simp [ByteArray.get!, h]
theorem piece_no32 (l : List UInt8) (pos : Nat) (hp : pos < l.length) (h : (⟨l.toArray⟩ : ByteArray).get! pos ≠ 32) (hw : pos + (Utf8.decode ⟨l.toArray⟩ pos).2 ≤ l.length) : (32 : UInt8) ∉ (l.drop pos).take (Utf8.decode ⟨l.toArray⟩ pos).2 := by
  have hd := Lib.decode_at ⟨l.toArray⟩ pos
  have hb : ((⟨l.toArray⟩ : ByteArray).get! pos).toNat ≠ 32 := fun q => h (UInt8.toNat_inj.1 (by rw [q]; rfl))
  have hn := decodeN_ne (n := (⟨l.toArray⟩ : ByteArray).size - pos) (b1 := ((⟨l.toArray⟩ : ByteArray).get! (pos + 1)).toNat) (b2 := ((⟨l.toArray⟩ : ByteArray).get! (pos + 2)).toNat) (b3 := ((⟨l.toArray⟩ : ByteArray).get! (pos + 3)).toNat) hb
  rw [← hd] at hn
  intro hm
  obtain ⟨j, hj⟩ := List.mem_iff_getElem?.1 hm
  rw [List.getElem?_take] at hj
  split at hj
  · rename_i hjw
    rw [List.getElem?_drop] at hj
    have e := get_at (l := l) (i := pos + j) (by omega)
    rw [hj] at e
    have e' : (⟨l.toArray⟩ : ByteArray).get! (pos + j) = 32 := (Option.some.inj e).symm
    have t32 : (32 : UInt8).toNat = 32 := rfl
    have h4 := hn.2.2.2.2
    have hj4 : j = 0 ∨ j = 1 ∨ j = 2 ∨ j = 3 := by omega
    rcases hj4 with rfl | rfl | rfl | rfl
    · exact h e'
    · exact hn.2.1 (by omega) (by rw [e']; rfl)
    · exact hn.2.2.1 (by omega) (by rw [e']; rfl)
    · exact hn.2.2.2.1 (by omega) (by rw [e']; rfl)
  · cases hj
abbrev p32 : Nat → Bool := fun r => decide ((r : Int) = 32)
theorem spans32 (l : List UInt8) : ∀ (f pos : Nat) (st : Option Nat) (acc : List (Nat × Nat)), l.length ≤ pos + f → pos ≤ l.length → (∀ a, st = some a → a < pos) →
    fieldsGo (Lib.openPiece l st pos) (acc.map fun p => Lib.pieceU l p.1 p.2) (l.drop pos) = (Lib.closeSpans ⟨l.toArray⟩ (Lib.spansFromP p32 ⟨l.toArray⟩ f pos st acc)).map (fun p => Lib.pieceU l p.1 p.2)
  | f, pos, st, acc, h, hp, hst => by
    have hsz : (⟨l.toArray⟩ : ByteArray).size = l.length := by simp [ByteArray.size]
    by_cases hlt : pos < l.length
    · cases f with
      | zero => omega
      | succ f =>
        have hd := List.drop_eq_getElem_cons hlt
        have hget : (⟨l.toArray⟩ : ByteArray).get! pos = l[pos] := by
          have := get_at hlt
          rw [List.getElem?_eq_getElem hlt] at this
          exact (Option.some.inj this).symm
        have hw := Lib.width_pos ⟨l.toArray⟩ pos
        have hwn : pos + (Utf8.decode ⟨l.toArray⟩ pos).2 ≤ l.length := by
          have := Lib.decodeN_le_n' ((⟨l.toArray⟩ : ByteArray).size - pos) ((⟨l.toArray⟩ : ByteArray).get! pos).toNat ((⟨l.toArray⟩ : ByteArray).get! (pos + 1)).toNat ((⟨l.toArray⟩ : ByteArray).get! (pos + 2)).toNat ((⟨l.toArray⟩ : ByteArray).get! (pos + 3)).toNat (by omega)
          rw [← Lib.decode_at] at this
          omega
        unfold Lib.spansFromP
        rw [if_pos (by rw [hsz]; exact hlt)]
        by_cases h32 : l[pos] = 32
        · have hdec : Utf8.decode ⟨l.toArray⟩ pos = (32, 1) := by
            rw [Lib.decode_at, hget, h32]
            rfl
          rw [hdec]
          dsimp only
          rw [if_pos (by decide), hd, fieldsGo, if_pos h32]
          cases st with
          | none =>
            have ih := spans32 l f (pos + 1) none acc (by omega) (by omega) (fun a h => by cases h)
            simpa [Lib.openPiece] using ih
          | some a =>
            have hpn := Lib.pieceU_ne l a pos (hst a rfl) (by omega)
            have ih := spans32 l f (pos + 1) none (acc ++ [(a, pos)]) (by omega) (by omega) (fun a h => by cases h)
            simpa [Lib.openPiece, hpn] using ih
        · have hne : (⟨l.toArray⟩ : ByteArray).get! pos ≠ 32 := by rw [hget]; exact h32
          have hno := piece_no32 l pos hlt hne hwn
          have hb : ((⟨l.toArray⟩ : ByteArray).get! pos).toNat ≠ 32 := fun q => hne (UInt8.toNat_inj.1 (by rw [q]; rfl))
          have hdn : (Utf8.decode ⟨l.toArray⟩ pos).1 ≠ 32 := by rw [Lib.decode_at]; exact (decodeN_ne hb).1
          rw [if_neg (by rw [decide_eq_true_eq]; omega)]
          generalize hW : (Utf8.decode ⟨l.toArray⟩ pos).2 = W at *
          have hsplit : l.drop pos = (l.drop pos).take W ++ l.drop (pos + W) := by
            rw [← List.drop_drop, List.take_append_drop]
          cases st with
          | none =>
            have ih := spans32 l f (pos + W) (some pos) acc (by omega) hwn (fun a h => by cases h; omega)
            rw [hsplit, fields_run _ _ _ _ hno]
            refine Eq.trans ?_ ih
            congr 1
            unfold Lib.openPiece Lib.pieceU
            dsimp only
            rw [List.nil_append, Nat.add_sub_cancel_left]
          | some a =>
            have ih := spans32 l f (pos + W) (some a) acc (by omega) hwn (fun b h => by cases h; have := hst a rfl; omega)
            rw [hsplit, fields_run _ _ _ _ hno]
            refine Eq.trans ?_ ih
            congr 1
            exact Lib.pieceU_grow _ _ _ _ (Nat.le_of_lt (hst a rfl))
    · obtain rfl : pos = l.length := by omega
      rw [List.drop_length, fieldsGo, Lib.spansFromP_end _ _ _ _ _ _ (by rw [hsz]; omega)]
      cases st with
      | none => simp [Lib.closeSpans, Lib.openPiece]
      | some a =>
        have := Lib.pieceU_ne l a l.length (hst a rfl) (Nat.le_refl _)
        simp [Lib.closeSpans, Lib.openPiece, this, hsz]
theorem lfields_eq (s : List UInt8) (hs : s.length ≤ 1000000) : lexer_Fields s = some (fieldsGo [] [] s) := by
  unfold lexer_Fields fieldsSp
  rw [if_pos (by omega), Option.bind_some]
  have h := spans32 s s.length 0 none [] (by omega) (Nat.zero_le _) (fun a h => by cases h)
  simp only [List.map_nil, Lib.openPiece, List.drop_zero] at h
  rw [h]
  unfold Lib.goFieldsP Lib.spansOfP
  rw [List.map_map]
  have hsz : (⟨s.toArray⟩ : ByteArray).size = s.length := by simp [ByteArray.size]
  rw [hsz]
  congr 1
  congr 1
  funext p
  simp [Lib.pieceU]
theorem fieldsGo_len : ∀ (r last : List UInt8) (acc : List (List UInt8)), (fieldsGo last acc r).length ≤ acc.length + r.length + 1
  | [], last, acc => by rw [fieldsGo]; split <;> simp
  | b :: r, last, acc => by
    rw [fieldsGo]
    split
    · have := fieldsGo_len r [] (if last = [] then acc else acc ++ [last])
      refine Nat.le_trans this ?_
      split <;> simp <;> omega
    · have := fieldsGo_len r (last ++ [b]) acc
      simp; omega
theorem law_Words (s : List UInt8) : law12_LexerWords s = some true := by
  unfold law12_LexerWords
  obtain ⟨b, hb, k⟩ := short_eq s
  rw [hb, Option.bind_some, awake_true]
  cases b
  · simp
  · have hs : s.length ≤ 10000 := by have := k rfl; omega
    have hl := fieldsGo_len s [] []
    simp only [List.length_nil, Nat.zero_add] at hl
    rw [lval_eq s (by omega), rval_eq s (by omega), lword_eq s (by omega), rword_eq s (by omega), lnum_eq s (by omega), rnum_eq s (by omega), lfields_eq s (by omega), fields_eq s (by omega)]
    simp [eqS_eq (fieldsGo [] [] s) (by omega)]
/-! ### the law LexerFields -/
theorem fieldsGo_ok : ∀ (r last : List UInt8) (acc : List (List UInt8)), (32 : UInt8) ∉ last → (∀ t ∈ acc, (32 : UInt8) ∉ t ∧ t ≠ []) → ∀ t ∈ fieldsGo last acc r, (32 : UInt8) ∉ t ∧ t ≠ []
  | [], last, acc, h, ha, t, ht => by
    rw [fieldsGo] at ht
    split at ht
    · exact ha t ht
    · rename_i hl
      rcases List.mem_append.1 ht with ht | ht
      · exact ha t ht
      · rw [List.mem_singleton.1 ht]; exact ⟨h, hl⟩
  | b :: r, last, acc, h, ha, t, ht => by
    rw [fieldsGo] at ht
    split at ht
    · refine fieldsGo_ok r [] _ (by simp) (fun u hu => ?_) t ht
      split at hu
      · exact ha u hu
      · rename_i hl
        rcases List.mem_append.1 hu with hu | hu
        · exact ha u hu
        · rw [List.mem_singleton.1 hu]; exact ⟨h, hl⟩
    · rename_i hb
      refine fieldsGo_ok r (last ++ [b]) acc (by simp; exact ⟨h, fun q => hb q.symm⟩) ha t ht
theorem fieldsGo_flat : ∀ (r last : List UInt8) (acc : List (List UInt8)), (fieldsGo last acc r).flatten = acc.flatten ++ last ++ r.filter (fun b => !(b == 32))
  | [], last, acc => by
    rw [fieldsGo]
    split
    · rename_i h; subst h; simp
    · simp
  | b :: r, last, acc => by
    rw [fieldsGo]
    by_cases hb : b = 32
    · subst hb
      rw [if_pos rfl, fieldsGo_flat r]
      by_cases hl : last = []
      · subst hl; simp
      · rw [if_neg hl]; simp
    · rw [if_neg hb, fieldsGo_flat r]
      simp [hb]
theorem join_empty : ∀ l : List (List UInt8), Lib.join l [] = l.flatten
  | [] => rfl
  | x :: r => by
    rw [Lib.join_cons, Lib.joinTail]
    simp
theorem join_space : ∀ l : List (List UInt8), Lib.join l [32] = joinT l
  | [] => rfl
  | [x] => by rw [Lib.join_one, joinT, if_pos rfl]
  | x :: y :: r => by
    have ih := join_space (y :: r)
    rw [Lib.join_cons] at ih ⊢
    rw [joinT, if_neg (by simp), ← ih]
    simp [Lib.joinTail]
theorem find_byte (c : UInt8) : ∀ s : List UInt8, c ∈ s → ∃ a r, s = a ++ c :: r ∧ c ∉ a
  | [], h => by simp at h
  | b :: t, h => by
    by_cases hb : b = c
    · exact ⟨[], t, by rw [hb]; rfl, by simp⟩
    · obtain ⟨a, r, e, ha⟩ := find_byte c t (by
        rcases List.mem_cons.1 h with q | q
        · exact absurd q.symm hb
        · exact q)
      refine ⟨b :: a, r, by rw [e]; rfl, fun q => ?_⟩
      rcases List.mem_cons.1 q with q | q
      · exact hb q.symm
      · exact ha q
theorem repl_filter (c : UInt8) : ∀ (n : Nat) (s : List UInt8), s.length ≤ n → Lib.replaceK [c] [] (Lib.count s [c]) s = s.filter (fun b => !(b == c))
  | n, s, hn => by
    by_cases h : c ∈ s
    · obtain ⟨a, r, rfl, ha⟩ := find_byte c s h
      have hi := index_cut c a r ha
      have e : (a ++ c :: r).drop (a.length + ([c] : List UInt8).length) = r := by simp
      cases n with
      | zero => simp at hn
      | succ n =>
        rw [Lib.count_hit (by simp) hi, e, Nat.add_comm 1, Lib.replaceK_hit _ _ _ _ _ hi, e, repl_filter c n r (by simp at hn; omega)]
        have hf : a.filter (fun b => !(b == c)) = a := List.filter_eq_self.2 (fun b hb => by
          have : b ≠ c := fun q => ha (q ▸ hb)
          simpa using this)
        simp [hf]
    · have hf : s.filter (fun b => !(b == c)) = s := List.filter_eq_self.2 (fun b hb => by
          have : b ≠ c := fun q => h (q ▸ hb)
          simpa using this)
      rw [Lib.count_miss (index_no c s h), Lib.replaceK, hf]
theorem replAll_eq (s : List UInt8) (hs : s.length ≤ 1000000) : replAll s [32] [] = some (s.filter (fun b => !(b == 32))) := by
  unfold replAll
  rw [if_pos ⟨by omega, by decide, by simp; omega⟩]
  congr 1
  unfold Lib.replaceAll Lib.replace Lib.replaceNum
  rw [if_neg (by decide), if_pos (.inl (by decide))]
  exact repl_filter 32 s.length s (Nat.le_refl _)
theorem contains32 (x : List UInt8) (h : x.length ≤ 1000000) (hx : (32 : UInt8) ∉ x) : strings_Contains x [32] = some false := by
  unfold strings_Contains indexS
  rw [if_pos (by omega), Option.bind_some, index_no 32 x hx]
  rfl
theorem fld_loop (l : List (List UInt8)) (k : Option Bool) (hb : l.length ≤ 1000000) (hok : ∀ t ∈ l, (32 : UInt8) ∉ t ∧ t ≠ [] ∧ t.length ≤ 1000000) : ∀ (r pre : List (List UInt8)), l = pre ++ r → law12_LexerFields_loop1 l k (r.length + 1) (pre.length : Int) = k
  | [], pre, e => by
    unfold law12_LexerFields_loop1
    rw [e, ge_end]
    simp
  | x :: r, pre, e => by
    obtain ⟨h1, h2, h3⟩ := hok x (by rw [e]; simp)
    unfold law12_LexerFields_loop1
    rw [e, lt_mid, if_pos rfl, at?_mid, Option.bind_some, wrap_mid (x := x) (r := r) (by rw [← e]; omega), ← e, contains32 x h3 h1]
    have q : (x == []) = false := by simpa using h2
    rw [q]
    simp only [Bool.false_eq_true, if_false, Option.bind_some]
    exact fld_loop l k hb hok r (pre ++ [x]) (by rw [e, mid_cons])
theorem joinT_len : ∀ l : List (List UInt8), (joinT l).length ≤ l.flatten.length + l.length
  | [] => by simp [joinT]
  | x :: r => by
    have := joinT_len r
    rw [joinT, List.flatten_cons, List.length_append, List.length_cons]
    split
    · omega
    · rw [List.length_append, List.length_cons]; omega
theorem law_Fields (s : List UInt8) : law12_LexerFields s = some true := by
  unfold law12_LexerFields
  by_cases h : s.length > 400
  · rw [if_pos (decide_eq_true (by omega)), awake_true]
    rfl
  · have hl : s.length ≤ 400 := by omega
    have hok := fieldsGo_ok s [] [] (by simp) (by simp)
    have hlen := fieldsGo_len s [] []
    have hflat := fieldsGo_flat s [] []
    simp only [List.length_nil, Nat.zero_add] at hlen
    simp only [List.flatten_nil, List.nil_append] at hflat
    have hfl : (fieldsGo [] [] s).flatten.length ≤ 400 := by
      rw [hflat]
      exact Nat.le_trans (List.length_filter_le _ _) hl
    have hmem : ∀ t ∈ fieldsGo [] [] s, t.length ≤ 1000000 := fun t ht => by have := flat_len ht; omega
    have hback := fields_join (fieldsGo [] [] s) [] hok
    rw [List.nil_append] at hback
    have hjl := joinT_len (fieldsGo [] [] s)
    have j1 : joinS (fieldsGo [] [] s) [] = some (s.filter (fun b => !(b == 32))) := by
      unfold joinS
      rw [join_empty, if_pos ⟨by omega, by omega⟩, hflat]
    have j2 : joinS (fieldsGo [] [] s) [32] = some (joinT (fieldsGo [] [] s)) := by
      unfold joinS
      rw [join_space, if_pos ⟨by omega, by omega⟩]
    rw [if_neg (by rw [decide_eq_true_eq]; omega), lfields_eq s (by omega), Option.bind_some]
    unfold joinK
    dsimp only
    rw [fuel0]
    refine Eq.trans (fld_loop _ _ (by omega) (fun t ht => ⟨(hok t ht).1, (hok t ht).2, hmem t ht⟩) _ [] rfl) ?_
    rw [j1, Option.bind_some, replAll_eq s (by omega), Option.bind_some, if_pos (by simp), j2, Option.bind_some, lfields_eq _ (by omega), Option.bind_some, hback, eqS_eq _ (by omega), awake_true]
    rfl
end Go.Proofs.YtmfphbdafgmplaaDoor.W
