/- The plain laws of the journal's logs: what a log is made of, and how it is loaded. No program in sight. -/
import Derived.Test.YtpocodofhkaddaaGreatDoorLawU
set_option linter.unusedVariables false
set_option linter.unusedSimpArgs false
set_option maxHeartbeats 2000000
namespace Go.Proofs.YtpocodofhkaddaaGreatDoor.W
open Go Go.RowKit
def lineOf (h : Int) (x : Entry) : List UInt8 := textS x ++ [32, 59, 32] ++ decM (markOf h (textS x))
def linesS (h : Int) : List Entry → List UInt8
  | [] => []
  | x :: r => lineOf h x ++ 10 :: linesS (markOf h (textS x)) r
def markL (h : Int) : List Entry → Int
  | [] => h
  | x :: r => markL (markOf h (textS x)) r
/-! ### the bytes of an entry -/
def plainB (b : UInt8) : Bool := inner b || b == 32
theorem plain_text {x : Entry} (e : GoodE x) : ∀ b ∈ textS x, plainB b = true := by
  have hj : ∀ (l : List (List UInt8)), (∀ t ∈ l, ∀ b ∈ t, plainB b = true) → ∀ b ∈ joinT l, plainB b = true := by
    intro l
    induction l with
    | nil => intro _ b hb; cases hb
    | cons a r ih =>
      intro h b hb
      rw [joinT] at hb
      split at hb
      · exact h a (by simp) b hb
      · rcases List.mem_append.1 hb with hb | hb
        · exact h a (by simp) b hb
        · rcases List.mem_cons.1 hb with rfl | hb
          · decide
          · exact ih (fun t ht => h t (by simp [ht])) b hb
  refine hj (toks x) (fun t ht b hb => ?_)
  have hd : ∀ n, ∀ b ∈ Lib.decDigits n, plainB b = true := fun n b hb => by
    have := isD_iff.1 (dec_all n b hb)
    unfold plainB inner
    simp [this]
  unfold toks at ht
  rcases List.mem_cons.1 ht with rfl | ht
  · have : (wordOf x.kind).all plainB = true := by
      unfold wordOf
      repeat' split
      all_goals decide
    exact List.all_eq_true.1 this b hb
  · rcases List.mem_cons.1 ht with rfl | ht
    · have := (word_in e.nm).2 b hb
      unfold plainB
      rw [this]; rfl
    · rcases List.mem_append.1 ht with ht | ht
      · split at ht
        · rw [List.mem_singleton.1 ht] at hb; exact hd _ b hb
        · cases ht
      · split at ht
        · rw [List.mem_singleton.1 ht] at hb; exact hd _ b hb
        · cases ht
theorem plain_no {c : UInt8} (hc : plainB c = false) {l : List UInt8} (h : ∀ b ∈ l, plainB b = true) : c ∉ l := fun q => by rw [h c q] at hc; cases hc
theorem dec_plain (n : Nat) : ∀ b ∈ Lib.decDigits n, plainB b = true := fun b hb => by
  have := isD_iff.1 (dec_all n b hb)
  unfold plainB inner
  simp [this]
theorem line_no10 {h : Int} {x : Entry} (e : GoodE x) : (10 : UInt8) ∉ lineOf h x := by
  unfold lineOf
  rw [List.mem_append, List.mem_append]
  rintro ((q | q) | q)
  · exact plain_no (by decide) (plain_text e) q
  · revert q; decide
  · exact plain_no (by decide) (dec_plain _) q
theorem line_len {h : Int} {x : Entry} (e : GoodE x) (h0 : 0 ≤ h) (h1 : h < 65521) : (lineOf h x).length ≤ 70 := by
  have := text_len e
  have hb := markOf_bd (s := textS x) h0 h1
  have : (decM (markOf h (textS x))).length ≤ 7 := dec7 (by omega)
  unfold lineOf
  simp only [List.length_append, List.length_cons, List.length_nil]
  omega
/-- where the only semicolon stands -/
theorem semi_unique : ∀ (p q t u : List UInt8), p ++ 59 :: t = q ++ 59 :: u → (59 : UInt8) ∉ p → (59 : UInt8) ∉ q → p = q ∧ t = u
  | [], [], t, u, e, _, _ => by
    rw [List.nil_append, List.nil_append] at e
    cases e
    exact ⟨rfl, rfl⟩
  | [], b :: q, t, u, e, _, hq => by
    rw [List.nil_append, List.cons_append] at e
    cases e
    exact absurd (List.mem_cons_self ..) hq
  | b :: p, [], t, u, e, hp, _ => by
    rw [List.nil_append, List.cons_append] at e
    cases e
    exact absurd (List.mem_cons_self ..) hp
  | b :: p, c :: q, t, u, e, hp, hq => by
    rw [List.cons_append, List.cons_append] at e
    injection e with e1 e2
    obtain ⟨h1, h2⟩ := semi_unique p q t u e2 (fun h => hp (by simp [h])) (fun h => hq (by simp [h]))
    exact ⟨by rw [e1, h1], h2⟩
theorem semi_line {p t q u : List UInt8} (hp : (59 : UInt8) ∉ p) (hq : (59 : UInt8) ∉ q) (e : p ++ [32, 59, 32] ++ t = q ++ [32, 59, 32] ++ u) : p = q ∧ t = u := by
  have e' : (p ++ [32]) ++ 59 :: (32 :: t) = (q ++ [32]) ++ 59 :: (32 :: u) := by simpa using e
  obtain ⟨h1, h2⟩ := semi_unique _ _ _ _ e' (by simp [hp]) (by simp [hq])
  exact ⟨List.append_cancel_right h1, by injection h2⟩
theorem lastSep_line {p t : List UInt8} (hp : (59 : UInt8) ∉ p) (ht : (59 : UInt8) ∉ t) : lastSep (p ++ [32, 59, 32] ++ t) = (p.length : Int) := by
  rcases lastSep_cases (p ++ [32, 59, 32] ++ t) with h | ⟨q, u, e, h⟩
  · exfalso
    unfold lastSep Lib.lastIndex at h
    rw [if_pos (by simp; omega)] at h
    rcases Lib.lastOcc_spec (p ++ [32, 59, 32] ++ t) [32, 59, 32] ((p ++ [32, 59, 32] ++ t).length - ([32, 59, 32] : List UInt8).length + 1) with ⟨_, hn⟩ | ⟨i, _, e, _⟩
    · have := hn p.length (by simp; omega)
      rw [Lib.occAt_iff_take _ _ _ (by simp)] at this
      simp at this
    · rw [e] at h; omega
  · rw [h]
    -- the semicolon of q stands where that of p does
    have hq : (59 : UInt8) ∉ q := by
      intro hm
      have hc : (p ++ [32, 59, 32] ++ t).count 59 = 1 := by
        rw [List.count_append, List.count_append, List.count_eq_zero.2 hp, List.count_eq_zero.2 ht]; rfl
      have hc2 : (q ++ [32, 59, 32] ++ u).count 59 ≥ 2 := by
        rw [List.count_append, List.count_append]
        have := List.count_pos_iff.2 hm
        have h1 : ([32, 59, 32] : List UInt8).count 59 = 1 := rfl
        omega
      rw [← e] at hc2
      omega
    rw [(semi_line hp hq e).1]
/-! ### a round of Load -/
theorem jstep (f : Nat) (line rest : List UInt8) (m : Machine) (h : Int) (n sz : Nat) (hnot : (10 : UInt8) ∉ line) (hl : (line ++ 10 :: rest).length ≤ 262144) (g : Good m) (h0 : 0 ≤ h) (h1 : h < 65521) (hn : n < 4096) (hsz : sz ≤ 1000000) :
    (lastSep line = -1 ∧ journal_readAll_loop1 (f + 1) (line ++ 10 :: rest) m.items m.cycles h n sz = some (⟨m, h, n, sz⟩, 19)) ∨
    ∃ p t, line = p ++ [32, 59, 32] ++ t ∧ lastSep line = (p.length : Int) ∧
      ((t ≠ decM (markOf h p) ∧ journal_readAll_loop1 (f + 1) (line ++ 10 :: rest) m.items m.cycles h n sz = some (⟨m, h, n, sz⟩, 19)) ∨
       (t = decM (markOf h p) ∧ ∃ q, journal_Read p = some q ∧
        ((q.2 ≠ 0 ∧ journal_readAll_loop1 (f + 1) (line ++ 10 :: rest) m.items m.cycles h n sz = some (⟨m, h, n, sz⟩, 4)) ∨
         (q.2 = 0 ∧ GoodE q.1 ∧ textS q.1 = p ∧ ∃ d, journal_done m q.1 = some d ∧
          ((d.2 ≠ 0 ∧ journal_readAll_loop1 (f + 1) (line ++ 10 :: rest) m.items m.cycles h n sz = some (⟨m, h, n, sz⟩, d.2)) ∨
           (d.2 = 0 ∧ Good d.1 ∧ journal_readAll_loop1 (f + 1) (line ++ 10 :: rest) m.items m.cycles h n sz = journal_readAll_loop1 f rest d.1.items d.1.cycles (markOf h p) ((n + 1 : Nat) : Int) ((sz + line.length + 1 : Nat) : Int))))))) := by
  have hm : (⟨m.items, m.cycles⟩ : Machine) = m := rfl
  have hll : line.length + 1 + rest.length ≤ 262144 := by simp at hl; omega
  have c0 : (!((line ++ 10 :: rest) == [])) = true := by
    rw [Bool.not_eq_true', beq_eq_false_iff_ne]; simp
  have c4 : ((n : Int) == 4096) = false := by rw [beq_eq_false_iff_ne]; omega
  have hlast : lastIdx line [32, 59, 32] = some (lastSep line) := by
    unfold lastIdx
    rw [if_pos (by omega)]
    rfl
  rw [journal_readAll_loop1]
  simp only [joinK, hm]
  rw [if_pos c0, cutAt_found hnot (by omega), Option.bind_some]
  simp only [c4, Bool.false_eq_true, if_false, Bool.not_true, hlast, Option.bind_some]
  rcases lastSep_cases line with hls | ⟨p, t, hpt, hls⟩
  · left
    have d1 : decide (lastSep line < 0) = true := decide_eq_true (by omega)
    rw [d1, if_pos rfl, Option.bind_some, if_pos rfl]
    exact ⟨hls, rfl⟩
  · right
    refine ⟨p, t, hpt, hls, ?_⟩
    have hpl : p.length + 3 + t.length = line.length := by rw [hpt]; simp; omega
    have d1 : decide (lastSep line < 0) = false := decide_eq_false (by omega)
    have d2 : cut line 0 (lastSep line) = some p := by
      rw [hls, cut_take (by omega), hpt, List.append_assoc]; simp
    have d3 : cut line (IntKind.wrap .i64 (lastSep line + 3)) (line.length : Int) = some t := by
      rw [hls, wrap64 (by omega) (by omega), show (p.length : Int) + 3 = ((p.length + 3 : Nat) : Int) by omega, cut_drop (by omega), hpt]
      congr 1
      rw [show p.length + 3 = (p ++ ([32, 59, 32] : List UInt8)).length by simp]
      simp
    have hmk' : journal_mark h p = some (markOf h p) := (mark_eq h p (by omega) h0 h1).1
    have hmb := markOf_bd (s := p) h0 h1
    have hit : itoa (markOf h p) = some (decM (markOf h p)) := (num_eq (a := markOf h p) (by omega) (by omega)).1
    rw [d1, if_neg (by decide)]
    simp only [d2, d3, Option.bind_some, hmk', hit]
    by_cases ht : t = decM (markOf h p)
    · right
      refine ⟨ht, ?_⟩
      have ht' : (t == decM (markOf h p)) = true := beq_iff_eq.2 ht
      simp only [ht', Bool.not_true, Bool.false_eq_true, if_false]
      obtain ⟨q, q1, _, q3, _⟩ := read_eq p
      refine ⟨q, q1, ?_⟩
      rw [q1, Option.bind_some]
      by_cases hq : q.2 = 0
      · right
        obtain ⟨gx, tx⟩ := q3 hq
        obtain ⟨A, o, B, c⟩ := cut_of q.1.name m.items g.srt
        have hdone := (done_eq g gx c).1
        have hgood := res_good (x := q.1) g gx c
        generalize res q.1 m.cycles A o B = d at hdone hgood
        refine ⟨hq, gx, tx, d, hdone, ?_⟩
        rw [hq, hdone]
        simp only [Option.bind_some, bne_self_eq_false, Bool.false_eq_true, if_false]
        by_cases hd : d.2 = 0
        · right
          refine ⟨hd, hgood hd, ?_⟩
          have wn : IntKind.wrap .i64 ((n : Int) + 1) = ((n + 1 : Nat) : Int) := by rw [wrap64 (by omega) (by omega)]; omega
          have ws2 : IntKind.wrap .i64 ((IntKind.wrap .i64 ((sz : Int) + (line.length : Int))) + 1) = ((sz + line.length + 1 : Nat) : Int) := by
            rw [wrap64 (x := (sz : Int) + (line.length : Int)) (by omega) (by omega), wrap64 (by omega) (by omega)]; omega
          simp only [hd, bne_self_eq_false, Bool.false_eq_true, if_false, wn, ws2]
        · left
          have bd : (d.2 != 0) = true := bne_iff_ne.2 hd
          simp only [bd, if_true]
          exact ⟨hd, trivial⟩
      · left
        have bq : (q.2 != 0) = true := bne_iff_ne.2 hq
        simp only [bq, if_true]
        exact ⟨hq, rfl⟩
    · left
      have ht' : (t == decM (markOf h p)) = false := beq_eq_false_iff_ne.2 ht
      simp only [ht', Bool.not_false, if_true]
      exact ⟨ht, rfl⟩
/-- a right line -/
theorem jstep_ok (f : Nat) (x : Entry) (rest : List UInt8) (m m' : Machine) (h : Int) (n sz : Nat) (e : GoodE x) (hl : (lineOf h x ++ 10 :: rest).length ≤ 262144) (g : Good m) (h0 : 0 ≤ h) (h1 : h < 65521) (hn : n < 4096) (hsz : sz ≤ 1000000) (hd : journal_done m x = some (m', 0)) :
    Good m' ∧ journal_readAll_loop1 (f + 1) (lineOf h x ++ 10 :: rest) m.items m.cycles h n sz = journal_readAll_loop1 f rest m'.items m'.cycles (markOf h (textS x)) ((n + 1 : Nat) : Int) ((sz + (lineOf h x).length + 1 : Nat) : Int) := by
  have no1 : (59 : UInt8) ∉ textS x := plain_no (by decide) (plain_text e)
  have no2 : (59 : UInt8) ∉ decM (markOf h (textS x)) := plain_no (by decide) (dec_plain _)
  have hls := lastSep_line no1 no2
  rcases jstep f (lineOf h x) rest m h n sz (line_no10 e) hl g h0 h1 hn hsz with ⟨q, _⟩ | ⟨p, t, hpt, q, hr⟩
  · unfold lineOf at q; rw [hls] at q; omega
  · have hpl : p.length = (textS x).length := by unfold lineOf at q; rw [hls] at q; omega
    have hpt' : textS x ++ ([32, 59, 32] ++ decM (markOf h (textS x))) = p ++ ([32, 59, 32] ++ t) := by
      have := hpt
      unfold lineOf at this
      simpa using this
    obtain ⟨e1, e2⟩ := List.append_inj hpt' hpl.symm
    have e3 : decM (markOf h (textS x)) = t := List.append_cancel_left e2
    subst e1
    rcases hr with ⟨q1, _⟩ | ⟨_, r, q2, hr⟩
    · exact absurd e3.symm q1
    · obtain ⟨r', k1, _, _, k4⟩ := read_eq (textS x)
      have := k4 x e rfl
      subst this
      rw [k1] at q2
      cases q2
      rcases hr with ⟨q3, _⟩ | ⟨_, _, _, d, hd2, hr⟩
      · exact absurd rfl q3
      · have hd3 : journal_done m x = some d := hd2
        rw [hd] at hd3
        cases hd3
        rcases hr with ⟨q4, _⟩ | ⟨_, q5, q6⟩
        · exact absurd rfl q4
        · exact ⟨q5, q6⟩
/-! ### runs -/
theorem runS_cons {i : Nat} {m : Machine} {x : Entry} {r : List Entry} (g : Good m) (hx : x.name.length ≤ 60) (h : (runS i m (x :: r)).2.2 = 0) : ∃ m', journal_Do m x = some (m', 0) ∧ journal_done m x = some (m', 0) ∧ GoodE x ∧ Good m' ∧ runS i m (x :: r) = runS (i + 1) m' r := by
  obtain ⟨d, d1, d2, d3, d4⟩ := do_eq m x (good_short g) hx
  obtain ⟨dm, de⟩ := d
  have hc : runS i m (x :: r) = (match journal_Do m x with
    | some (m', e) => if e = 0 then runS (i + 1) m' r else (⟨[], 0⟩, (i : Int), e)
    | none => (⟨[], 0⟩, 0, 0)) := rfl
  rw [d1] at hc
  rw [hc] at h
  by_cases h0 : de = 0
  · subst h0
    obtain ⟨_, e, g'⟩ := d4 rfl
    obtain ⟨A, o, B, c⟩ := cut_of x.name m.items g.srt
    have hdo := (do_good g e c).1
    rw [d1] at hdo
    have hdone := (done_eq g e c).1
    rw [← Option.some.inj hdo] at hdone
    exact ⟨dm, d1, hdone, e, g', by rw [hc]; simp⟩
  · simp only [if_neg h0] at h
    exact absurd h h0
/-- a log's beginning is loaded -/
theorem load_lines : ∀ (l : List Entry) (m : Machine) (i : Nat) (h : Int) (n sz f : Nat) (t : List UInt8), SmallE l → Good m → (runS i m l).2.2 = 0 → 0 ≤ h → h < 65521 → n + l.length ≤ 4096 → sz + (linesS h l ++ t).length ≤ 262144 →
    (∀ y ∈ l, GoodE y) ∧ Good (runS i m l).1 ∧ journal_readAll_loop1 (f + l.length) (linesS h l ++ t) m.items m.cycles h n sz = journal_readAll_loop1 f t (runS i m l).1.items (runS i m l).1.cycles (markL h l) ((n + l.length : Nat) : Int) ((sz + (linesS h l).length : Nat) : Int)
  | [], m, i, h, n, sz, f, t, _, g, _, h0, h1, _, _ => ⟨fun x hx => (by cases hx), g, by simp [linesS, markL, runS]⟩
  | x :: r, m, i, h, n, sz, f, t, hs, g, hr, h0, h1, hn, hl => by
    have hx : x.name.length ≤ 60 := hs x (by simp)
    obtain ⟨m', k1, k2, e, g', k3⟩ := runS_cons g hx hr
    have hb := markOf_bd (s := textS x) h0 h1
    have hn' : n + (r.length + 1) ≤ 4096 := by simpa using hn
    have hl' : sz + ((lineOf h x).length + 1 + (linesS (markOf h (textS x)) r ++ t).length) ≤ 262144 := by
      simp only [linesS, List.append_assoc, List.cons_append, List.length_append, List.length_cons] at hl ⊢
      omega
    rw [k3] at hr ⊢
    obtain ⟨q1, q2, q3⟩ := load_lines r m' (i + 1) (markOf h (textS x)) (n + 1) (sz + (lineOf h x).length + 1) f t (fun y hy => hs y (by simp [hy])) g' hr hb.1 hb.2 (by omega) (by omega)
    refine ⟨fun y hy => ?_, q2, ?_⟩
    · rcases List.mem_cons.1 hy with rfl | hy
      · exact e
      · exact q1 y hy
    · obtain ⟨_, s1⟩ := jstep_ok (f + r.length) x (linesS (markOf h (textS x)) r ++ t) m m' h n sz e (by simp only [List.length_append, List.length_cons] at hl' ⊢; omega) g h0 h1 (by omega) (by omega) k2
      rw [show f + (x :: r).length = (f + r.length) + 1 by simp; omega, show linesS h (x :: r) ++ t = lineOf h x ++ 10 :: (linesS (markOf h (textS x)) r ++ t) by simp [linesS], s1, q3]
      have e1 : n + 1 + r.length = n + (x :: r).length := by simp; omega
      have e2 : sz + (lineOf h x).length + 1 + (linesS (markOf h (textS x)) r).length = sz + (linesS h (x :: r)).length := by simp [linesS]; omega
      rw [e1, e2]
      rfl
end Go.Proofs.YtpocodofhkaddaaGreatDoor.W
