/- The plain laws of the journal's logs: JournalTears and JournalSpoils. No program in sight. -/
import Derived.Test.YtpigfknmlmeihaaGreatDoorLawV
set_option linter.unusedVariables false
set_option linter.unusedSimpArgs false
set_option maxHeartbeats 2000000
namespace Go.Proofs.YtpigfknmlmeihaaGreatDoor.W
open Go Go.RowKit
theorem right_run (l : List Entry) : ∃ b, law58_right l = some b ∧ (b = true → SmallE l ∧ l.length ≤ 20 ∧ (runS 0 ⟨[], 0⟩ l).2.2 = 0) := by
  unfold law58_right
  by_cases h : l.length ≤ 20
  · have hd : decide ((l.length : Int) > 20) = false := decide_eq_false (by omega)
    obtain ⟨b, hf, hfb⟩ := fewE_eq l (by omega)
    simp only [hd, Bool.false_eq_true, if_false, entries_eq l (by omega), Option.bind_some, hf]
    cases b with
    | false => exact ⟨false, rfl, by simp⟩
    | true =>
      obtain ⟨h1, h2, h3⟩ := hfb rfl
      simp only [Bool.not_true, Bool.false_eq_true, if_false, (run_eq2 l h3 (by omega)).2, Option.bind_some]
      exact ⟨_, rfl, fun q => ⟨h3, h, by simpa using q⟩⟩
  · have hd : decide ((l.length : Int) > 20) = true := decide_eq_true (by omega)
    simp only [hd, if_true, Option.bind_some]
    exact ⟨false, rfl, by simp⟩
/-! ### Log -/
theorem log_loopT (l : List Entry) (k : List UInt8 → Option (List UInt8 × Int)) (hg : ∀ x ∈ l, GoodE x) (hb : l.length ≤ 4096) : ∀ (r pre : List Entry) (h : Int) (acc : List UInt8), l = pre ++ r → 0 ≤ h → h < 65521 → acc.length + 80 * r.length ≤ 262144 →
    journal_Log_loop1 l k (r.length + 1) h (pre.length : Int) acc = k (acc ++ linesS h r)
  | [], pre, h, acc, e, h0, h1, ha => by
    unfold journal_Log_loop1
    rw [e, ge_end]
    simp [linesS]
  | x :: r, pre, h, acc, e, h0, h1, ha => by
    have ex : GoodE x := hg x (by rw [e]; simp)
    have hm := markOf_bd (s := textS x) h0 h1
    have hm' : journal_mark h (textS x) = some (markOf h (textS x)) := (mark_eq h (textS x) (by have := text_len ex; omega) h0 h1).1
    have hit : itoa (markOf h (textS x)) = some (decM (markOf h (textS x))) := (num_eq (a := markOf h (textS x)) (by omega) (by omega)).1
    have hl := text_len ex
    have hdl : (decM (markOf h (textS x))).length ≤ 7 := dec7 (by omega)
    rw [List.length_cons] at ha
    unfold journal_Log_loop1
    rw [e, lt_mid, if_pos rfl, at?_mid, wrap_mid (x := x) (r := r) (by rw [← e]; omega), ← e]
    simp only [Option.bind_some, (text_at x ex).1, hm', hit]
    rw [catO_small (by simp; omega), Option.bind_some, catO_small (by simp; omega), Option.bind_some, catO_small (by simp; omega), Option.bind_some, appO_ok (by simp; omega) (by decide), Option.bind_some]
    have hd : decide ((((acc ++ (textS x ++ [32, 59, 32] ++ decM (markOf h (textS x)) ++ [10])).length : Nat) : Int) > 262144) = false := decide_eq_false (by simp; omega)
    rw [hd, if_neg (by decide), List.length_cons, log_loopT l k hg hb r (pre ++ [x]) (markOf h (textS x)) _ (by rw [e, mid_cons]) hm.1 hm.2 (by simp; omega)]
    simp [linesS, lineOf]
theorem goodE_run : ∀ (l : List Entry) (i : Nat) (m : Machine), SmallE l → Good m → (runS i m l).2.2 = 0 → ∀ x ∈ l, GoodE x
  | [], i, m, _, _, _, x, hx => by cases hx
  | y :: r, i, m, hs, g, h, x, hx => by
    obtain ⟨m', _, _, e, g', k3⟩ := runS_cons g (hs y (by simp)) h
    rcases List.mem_cons.1 hx with rfl | hx
    · exact e
    · rw [k3] at h
      exact goodE_run r (i + 1) m' (fun z hz => hs z (by simp [hz])) g' h x hx
theorem run_app : ∀ (l1 l2 : List Entry) (i : Nat) (m : Machine), SmallE (l1 ++ l2) → Good m → (runS i m (l1 ++ l2)).2.2 = 0 → (runS i m l1).2.2 = 0
  | [], l2, i, m, _, _, _ => rfl
  | x :: l1, l2, i, m, hs, g, h => by
    obtain ⟨m', k1, k2, e, g', k3⟩ := runS_cons (r := l1 ++ l2) g (hs x (by simp)) h
    have hc : runS i m (x :: l1) = runS (i + 1) m' l1 := by
      show (match journal_Do m x with
        | some (m', e) => if e = 0 then runS (i + 1) m' l1 else (⟨[], 0⟩, (i : Int), e)
        | none => (⟨[], 0⟩, 0, 0)) = _
      rw [k1]
      simp
    rw [List.cons_append, k3] at h
    rw [hc]
    exact run_app l1 l2 (i + 1) m' (fun z hz => hs z (by simp at hz ⊢; exact .inr hz)) g' h
theorem log_text (l : List Entry) (hs : SmallE l) (hb : l.length ≤ 20) (hr : (runS 0 ⟨[], 0⟩ l).2.2 = 0) : journal_Log l = some (linesS 0 l, 0) := by
  unfold journal_Log
  simp only [joinK]
  rw [(run_eq2 l hs (by omega)).1, Option.bind_some, hr, if_neg (by decide), fuel0]
  have := log_loopT l (fun l3 => some (l3, 0)) (goodE_run l 0 _ hs good0 hr) (by omega) l [] 0 [] rfl (by omega) (by omega) (by simp; omega)
  simpa using this
theorem lines_len : ∀ (l : List Entry) {h : Int}, (∀ x ∈ l, GoodE x) → 0 ≤ h → h < 65521 → l.length ≤ (linesS h l).length ∧ (linesS h l).length ≤ 80 * l.length
  | [], h, _, _, _ => by simp [linesS]
  | x :: r, h, hg, h0, h1 => by
    have hb := markOf_bd (s := textS x) h0 h1
    have ih := lines_len r (h := markOf h (textS x)) (fun y hy => hg y (by simp [hy])) hb.1 hb.2
    have := line_len (x := x) (h := h) (hg x (by simp)) h0 h1
    simp only [linesS, List.length_append, List.length_cons]
    omega
theorem lines_app : ∀ (l1 l2 : List Entry) (h : Int), linesS h (l1 ++ l2) = linesS h l1 ++ linesS (markL h l1) l2
  | [], l2, h => by simp [linesS, markL]
  | x :: l1, l2, h => by simp [linesS, markL, lines_app l1 l2]
theorem lines_count : ∀ (l : List Entry) (h : Int), (∀ x ∈ l, GoodE x) → (linesS h l).count 10 = l.length
  | [], h, _ => rfl
  | x :: r, h, hg => by
    rw [linesS, List.count_append, List.count_eq_zero.2 (line_no10 (hg x (by simp))), List.count_cons, lines_count r _ (fun y hy => hg y (by simp [hy]))]
    simp
theorem lines_end : ∀ (l : List Entry) (h : Int), l ≠ [] → ∃ u, linesS h l = u ++ [10]
  | [], h, q => absurd rfl q
  | [x], h, _ => ⟨lineOf h x, by simp [linesS]⟩
  | x :: y :: r, h, _ => by
    obtain ⟨u, hu⟩ := lines_end (y :: r) (markOf h (textS x)) (by simp)
    exact ⟨lineOf h x ++ 10 :: u, by rw [linesS, hu]; simp⟩
theorem last_nl {u t : List UInt8} (hu : u = [] ∨ ∃ u', u = u' ++ [10]) (ht : (10 : UInt8) ∉ t) (hl : (u ++ t).length < 4611686018427387904) : lastIdx (u ++ t) [10] = some ((u.length : Int) - 1) := by
  unfold lastIdx Lib.lastIndex
  rw [if_pos hl]
  congr 1
  have after : ∀ i, u.length ≤ i → Lib.occAt (u ++ t) [10] i = false := fun i hi => by
    rw [occ_one, List.getElem?_append_right hi, beq_eq_false_iff_ne]
    intro q
    exact ht (List.mem_of_getElem? q)
  by_cases h1 : ([10] : List UInt8).length ≤ (u ++ t).length
  · rw [if_pos h1]
    have hn : (u ++ t).length - ([10] : List UInt8).length + 1 = (u ++ t).length := by
      have : ([10] : List UInt8).length = 1 := rfl
      omega
    rw [hn]
    rcases Lib.lastOcc_spec (u ++ t) [10] (u ++ t).length with ⟨e, hno⟩ | ⟨i, hi, e, ho, hno⟩
    · rw [e]
      rcases hu with rfl | ⟨u', rfl⟩
      · rfl
      · have := hno u'.length (by simp)
        rw [occ_one] at this
        simp at this
    · rw [e]
      have hlt : i < u.length := by
        apply Decidable.byContradiction
        intro q
        rw [after i (by omega)] at ho
        cases ho
      rcases hu with rfl | ⟨u', rfl⟩
      · simp at hlt
      · have hi2 : ¬ i < u'.length := fun q => by
          have := hno u'.length q (by simp)
          rw [occ_one] at this
          simp at this
        simp at hlt ⊢
        omega
  · rw [if_neg h1]
    have : (u ++ t).length = 0 := by
      have : ([10] : List UInt8).length = 1 := rfl
      omega
    have : u.length = 0 := by simp at this; simp [this]
    omega
/-! ### loading -/
theorem readAll_lines (l : List Entry) (t : List UInt8) (hs : SmallE l) (hb : l.length ≤ 20) (hr : (runS 0 ⟨[], 0⟩ l).2.2 = 0) (hl : (linesS 0 l ++ t).length ≤ 262144) (ht : (10 : UInt8) ∉ t) :
    journal_readAll (linesS 0 l ++ t) = some (⟨(runS 0 ⟨[], 0⟩ l).1, markL 0 l, (l.length : Int), ((linesS 0 l).length : Int)⟩, if t = [] then 0 else 18) ∧ Good (runS 0 ⟨[], 0⟩ l).1 := by
  have hg := goodE_run l 0 _ hs good0 hr
  have hll := lines_len l (h := 0) hg (by omega) (by omega)
  obtain ⟨_, g, h3⟩ := load_lines l ⟨[], 0⟩ 0 0 0 0 ((linesS 0 l ++ t).length + 1 - l.length) t hs good0 hr (by omega) (by omega) (by omega) (by omega)
  have hf : (linesS 0 l ++ t).length + 1 - l.length + l.length = (linesS 0 l ++ t).length + 1 := by rw [List.length_append]; omega
  refine ⟨?_, g⟩
  unfold journal_readAll
  rw [hf] at h3
  refine h3.trans ?_
  rw [Nat.zero_add, Nat.zero_add]
  obtain ⟨f', hf'⟩ : ∃ f', (linesS 0 l ++ t).length + 1 - l.length = f' + 1 := ⟨(linesS 0 l ++ t).length - l.length, by rw [List.length_append]; omega⟩
  rw [hf', journal_readAll_loop1]
  by_cases h0 : t = []
  · subst h0
    simp
  · have c0 : (!(t == [])) = true := by simpa using h0
    have c4 : (((l.length : Nat) : Int) == 4096) = false := by rw [beq_eq_false_iff_ne]; omega
    have htl : t.length < 4294967281 := by rw [List.length_append] at hl; omega
    simp only [joinK]
    rw [if_pos c0, cutAt_none ht htl, Option.bind_some, if_neg h0]
    simp [c4]
theorem load_of {T : List UInt8} (hT : T.length ≤ 262144) {r : JRead} {e : Int} (h : journal_readAll T = some (r, e)) : journal_Load T = some (if e = 0 then (r.m, r.lines, 0) else (⟨[], 0⟩, r.lines, e)) := by
  unfold journal_Load
  have hd : decide ((T.length : Int) > 262144) = false := decide_eq_false (by omega)
  rw [hd, if_neg (by decide), h, Option.bind_some]
  by_cases he : e = 0
  · subst he; rfl
  · rw [if_pos (bne_iff_ne.2 he), if_neg he]
theorem repaired_of {T : List UInt8} (hT : T.length ≤ 262144) {r : JRead} {e : Int} (h : journal_readAll T = some (r, e)) {a : Nat} (ha : r.size = (a : Int)) (hl : a ≤ T.length) : journal_Repaired T = some (T.take a) := by
  unfold journal_Repaired
  rw [if_neg (by omega), cut_take (Nat.le_refl _), List.take_length, Option.bind_some, h, Option.bind_some, ha, cut_take hl, Option.bind_some]
theorem count_eq (s : List UInt8) : countS s [10] = some ((s.count 10 : Nat) : Int) := rfl
/-! ### tearing -/
theorem take_lines : ∀ (l : List Entry) (h : Int) (a : Nat), (∀ x ∈ l, GoodE x) → a ≤ (linesS h l).length → ∃ k t, k ≤ l.length ∧ (linesS h l).take a = linesS h (l.take k) ++ t ∧ (10 : UInt8) ∉ t
  | [], h, a, _, _ => ⟨0, [], by simp, by simp [linesS], by simp⟩
  | x :: r, h, a, hg, ha => by
    by_cases hq : a ≤ (lineOf h x).length
    · refine ⟨0, (lineOf h x).take a, by simp, ?_, fun q => line_no10 (hg x (by simp)) (List.mem_of_mem_take q)⟩
      rw [linesS, List.take_append_of_le_length hq]
      simp [linesS]
    · have hl : (linesS h (x :: r)).length = (lineOf h x).length + 1 + (linesS (markOf h (textS x)) r).length := by simp [linesS]; omega
      obtain ⟨k, t, h1, h2, h3⟩ := take_lines r (markOf h (textS x)) (a - (lineOf h x).length - 1) (fun y hy => hg y (by simp [hy])) (by omega)
      refine ⟨k + 1, t, by simp; omega, ?_, h3⟩
      rw [linesS, List.take_append, List.take_of_length_le (by omega)]
      obtain ⟨b, hb⟩ : ∃ b, a - (lineOf h x).length = b + 1 := ⟨a - (lineOf h x).length - 1, by omega⟩
      rw [hb, List.take_succ_cons]
      have hb' : b = a - (lineOf h x).length - 1 := by omega
      rw [hb', h2, List.take_succ_cons, linesS]
      simp
theorem law_Tears (l : List Entry) (at_ : Int) (a0 : 0 ≤ at_) (a1 : at_ ≤ 65535) : law58_JournalTears l at_ = some true := by
  obtain ⟨b, hb, hok⟩ := right_run l
  unfold law58_JournalTears
  rw [hb, Option.bind_some]
  cases b with
  | false => rw [if_pos (show (!false) = true from rfl), awake_true]; rfl
  | true =>
    obtain ⟨hs, h20, hr⟩ := hok rfl
    have hg := goodE_run l 0 _ hs good0 hr
    have hll := lines_len l (h := 0) hg (by omega) (by omega)
    have hlen : (linesS 0 l).length ≤ 1600 := by omega
    rw [if_neg (show ¬ ((!true) = true) by decide), log_text l hs h20 hr, Option.bind_some, (run_eq2 l hs (by omega)).1, Option.bind_some]
    obtain ⟨rA, gM⟩ := readAll_lines l [] hs h20 hr (by simp; omega) (by simp)
    rw [List.append_nil, if_pos rfl] at rA
    have lA := load_of (by omega) rA
    rw [if_pos rfl] at lA
    have pA := repaired_of (by omega) rA (a := (linesS 0 l).length) rfl (Nat.le_refl _)
    rw [List.take_length] at pA
    have hM : (runS 0 ⟨[], 0⟩ l).1.items.length ≤ 256 := gM.len
    rw [lA, Option.bind_some]
    simp only [joinK, hr]
    have w0 : IntKind.wrap .i64 (IntKind.wrap .i64 (0 + 0) + 0) = 0 := by kernel_rfl
    have wl : IntKind.wrap .i64 (((linesS 0 l).length : Int) + 1) = ((linesS 0 l).length : Int) + 1 := wrap64 (by omega) (by omega)
    have wa : IntKind.wrap .i64 at_ = at_ := wrap64 (by omega) (by omega)
    rw [w0, if_neg (by decide), if_neg (by simp), own_eq _ (by omega), Option.bind_some, Option.bind_some, same_eq _ (by omega), Option.bind_some, if_neg (by decide), pA, Option.bind_some]
    rw [if_neg (by simp)]
    -- the torn one
    obtain ⟨a, ha⟩ : ∃ a : Nat, Int.tmod at_ (((linesS 0 l).length : Int) + 1) = (a : Int) := ⟨(Int.tmod at_ (((linesS 0 l).length : Int) + 1)).toNat, by rw [Int.tmod_eq_emod_of_nonneg a0]; have := Int.emod_nonneg at_ (show ((linesS 0 l).length : Int) + 1 ≠ 0 by omega); omega⟩
    have hal : a ≤ (linesS 0 l).length := by
      rw [Int.tmod_eq_emod_of_nonneg a0] at ha
      have := Int.emod_lt_of_pos at_ (show 0 < ((linesS 0 l).length : Int) + 1 by omega)
      omega
    obtain ⟨k, t, hk, htk, hnt⟩ := take_lines l 0 a hg hal
    have hsk : SmallE (l.take k) := fun x hx => hs x (List.mem_of_mem_take hx)
    have hgk : ∀ x ∈ l.take k, GoodE x := fun x hx => hg x (List.mem_of_mem_take hx)
    have hrk : (runS 0 ⟨[], 0⟩ (l.take k)).2.2 = 0 := run_app (l.take k) (l.drop k) 0 _ (by rw [List.take_append_drop]; exact hs) good0 (by rw [List.take_append_drop]; exact hr)
    have hlk : (l.take k).length = k := by rw [List.length_take]; omega
    have hsl : (linesS 0 (l.take k) ++ t).length ≤ 1600 := by rw [← htk, List.length_take]; omega
    have hsl' : (linesS 0 (l.take k)).length ≤ 1600 := by rw [List.length_append] at hsl; omega
    obtain ⟨rB, gB⟩ := readAll_lines (l.take k) t hsk (by omega) hrk (by omega) hnt
    obtain ⟨rC, _⟩ := readAll_lines (l.take k) [] hsk (by omega) hrk (by simp; omega) (by simp)
    rw [List.append_nil, if_pos rfl] at rC
    have lB := load_of (by omega) rB
    have lC := load_of (by omega) rC
    rw [if_pos rfl] at lC
    have pB := repaired_of (by omega) rB (a := (linesS 0 (l.take k)).length) rfl (by simp)
    rw [List.take_left' rfl] at pB
    have hend : linesS 0 (l.take k) = [] ∨ ∃ u', linesS 0 (l.take k) = u' ++ [10] := by
      by_cases hz : l.take k = []
      · left; rw [hz]; rfl
      · right; exact lines_end _ _ hz
    have hli := last_nl hend hnt (by omega)
    have hcut : cut (linesS 0 l) 0 (a : Int) = some (linesS 0 (l.take k) ++ t) := by rw [cut_take hal, htk]
    have hcount : countS (linesS 0 (l.take k) ++ t) [10] = some ((k : Nat) : Int) := by
      rw [count_eq, List.count_append, lines_count _ _ hgk, List.count_eq_zero.2 hnt, hlk]
      rfl
    have hpart : part? l 0 (k : Int) = some (l.take k) := by
      unfold part?
      rw [if_pos ⟨by omega, by omega, by omega⟩]
      simp
    have wz : IntKind.wrap .i64 (((linesS 0 (l.take k)).length : Int) - 1 + 1) = ((linesS 0 (l.take k)).length : Int) := by rw [wrap64 (by omega) (by omega)]; omega
    have hcut2 : cut (linesS 0 (l.take k) ++ t) 0 ((linesS 0 (l.take k)).length : Int) = some (linesS 0 (l.take k)) := by
      rw [cut_take (by simp), List.take_left' rfl]
    have hN : (runS 0 ⟨[], 0⟩ (l.take k)).1.items.length ≤ 256 := gB.len
    have dk : decide ((k : Int) > (l.length : Int)) = false := decide_eq_false (by omega)
    have hgu : guardO ((((linesS 0 l).length : Int) + 1) != 0) = some () := by
      unfold guardO
      rw [if_pos (bne_iff_ne.2 (by omega))]
    rw [wl, hgu, Option.bind_some, wa, ha, hcut, Option.bind_some, hcount, Option.bind_some, pB, Option.bind_some, dk, if_neg (by decide), hli, Option.bind_some, wz, hcut2, Option.bind_some, Option.bind_some, if_neg (by simp)]
    rw [hpart, Option.bind_some, log_text (l.take k) hsk (by omega) hrk, Option.bind_some, Option.bind_some, (run_eq2 (l.take k) hsk (by omega)).1, Option.bind_some, lC, Option.bind_some, lB, Option.bind_some]
    simp only [hrk, hlk]
    rw [w0, if_neg (by decide), if_neg (by simp), if_neg (by simp)]
    have fin : ∀ e : Int, (e = if t = [] then 0 else 18) → ((((if e = 0 then ((runS 0 ⟨[], 0⟩ (l.take k)).1, (k : Int), (0 : Int)) else (⟨[], 0⟩, (k : Int), e)).2.1 != (k : Int)) = false) ∧
        (((if e = 0 then ((runS 0 ⟨[], 0⟩ (l.take k)).1, (k : Int), (0 : Int)) else (⟨[], 0⟩, (k : Int), e)).2.2 == 0) == (linesS 0 (l.take k) == linesS 0 (l.take k) ++ t) && ((if e = 0 then ((runS 0 ⟨[], 0⟩ (l.take k)).1, (k : Int), (0 : Int)) else (⟨[], 0⟩, (k : Int), e)).2.2 == 0 || (if e = 0 then ((runS 0 ⟨[], 0⟩ (l.take k)).1, (k : Int), (0 : Int)) else (⟨[], 0⟩, (k : Int), e)).2.2 == 18)) = true) := by
      intro e he
      by_cases hz : t = []
      · rw [if_pos hz] at he
        subst he
        subst hz
        simp
      · rw [if_neg hz] at he
        subst he
        have : (linesS 0 (l.take k) == linesS 0 (l.take k) ++ t) = false := by
          rw [beq_eq_false_iff_ne]
          intro q
          have := congrArg List.length q
          rw [List.length_append] at this
          exact hz (List.eq_nil_of_length_eq_zero (by omega))
        rw [this]
        simp
    obtain ⟨f1, f2⟩ := fin _ rfl
    rw [f1, if_neg (by decide), own_eq _ (by omega), Option.bind_some, Option.bind_some, same_eq _ (by omega), Option.bind_some, if_neg (by decide)]
    simp only [f2, if_true, awake_true, Option.bind_some]
end Go.Proofs.YtpigfknmlmeihaaGreatDoor.W
