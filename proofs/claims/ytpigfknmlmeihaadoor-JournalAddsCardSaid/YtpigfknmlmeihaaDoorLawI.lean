/- The plain laws of the journal, ninth part: the law JournalAdds. -/
import Derived.Test.YtpigfknmlmeihaaDoorLawH
set_option linter.unusedVariables false
set_option linter.unusedSimpArgs false
set_option maxHeartbeats 2000000
namespace Go.Proofs.YtpigfknmlmeihaaDoor.W
open Go Go.RowKit
theorem index_loop (l : List (List UInt8)) (v : List UInt8) (k : Option Int) (hb : l.length ≤ 4611686018427387904) : ∀ (r pre : List (List UInt8)), l = pre ++ r → ∃ i : Int, 0 ≤ i ∧ slices_Index_stringstring_loop1 l v k (r.length + 1) (pre.length : Int) = if v ∈ r then some i else k
  | [], pre, e => by
    refine ⟨0, by decide, ?_⟩
    unfold slices_Index_stringstring_loop1
    rw [e, ge_end]
    simp
  | x :: r, pre, e => by
    unfold slices_Index_stringstring_loop1
    rw [e, lt_mid, if_pos rfl, at?_mid, Option.bind_some, wrap_mid (x := x) (r := r) (by rw [← e]; exact hb), ← e]
    by_cases h : v = x
    · refine ⟨(pre.length : Int), by omega, ?_⟩
      rw [if_pos (by simpa using h), if_pos (by rw [h]; exact List.mem_cons_self ..)]
    · obtain ⟨i, h0, ih⟩ := index_loop l v k hb r (pre ++ [x]) (by rw [e, mid_cons])
      refine ⟨i, h0, ?_⟩
      rw [if_neg (by simpa using h)]
      refine ih.trans ?_
      by_cases q : v ∈ r
      · rw [if_pos q, if_pos (List.mem_cons_of_mem _ q)]
      · rw [if_neg q, if_neg (fun z => by rcases List.mem_cons.1 z with z | z; exact h z; exact q z)]
theorem contains_eq (l : List (List UInt8)) (v : List UInt8) (hb : l.length ≤ 4611686018427387904) : slices_Contains_stringstring l v = some (decide (v ∈ l)) := by
  unfold slices_Contains_stringstring slices_Index_stringstring joinK
  rw [fuel0]
  obtain ⟨i, h0, e⟩ := index_loop l v (some (-1)) hb l [] rfl
  simp only [List.length_nil, Int.natCast_zero] at e
  simp only [e]
  by_cases q : v ∈ l
  · rw [if_pos q, Option.bind_some, decide_eq_true q, decide_eq_true h0]
  · rw [if_neg q, Option.bind_some, decide_eq_false q]
    rfl
theorem due_mem {A B : List Item} {y : Item} {name : List UInt8} (hA : ∀ x ∈ A, x.name ≠ name) (hB : ∀ x ∈ B, x.name ≠ name) (hy : y.name = name) : decide (name ∈ dueL (A ++ y :: B)) = dueB y := by
  have key : name ∈ dueL (A ++ y :: B) ↔ dueB y = true := by
    unfold dueL
    rw [List.mem_map]
    constructor
    · rintro ⟨z, hz, hn⟩
      rw [List.mem_filter] at hz
      obtain ⟨h1, h2⟩ := hz
      rcases List.mem_append.1 h1 with q | q
      · exact absurd hn (hA z q)
      · rcases List.mem_cons.1 q with rfl | q
        · exact h2
        · exact absurd hn (hB z q)
    · intro h
      exact ⟨y, List.mem_filter.2 ⟨by simp, h⟩, hy⟩
  cases hd : dueB y
  · rw [hd] at key
    exact decide_eq_false (fun q => by have := key.1 q; cases this)
  · exact decide_eq_true (key.2 hd)
theorem left_due {y : Item} {c s : Int} (hs : 1 ≤ s) (hc : 1 ≤ c) : decide (c ≥ leftN y s) = decide (y.used + c * s ≥ y.life) := by
  have hcs : c ≤ c * s := by
    have := Int.mul_le_mul_of_nonneg_left hs (by omega : 0 ≤ c)
    omega
  unfold leftN
  by_cases h : y.used ≥ y.life
  · rw [if_pos h, decide_eq_true (by omega), decide_eq_true (by omega)]
  · rw [if_neg h, Int.tdiv_eq_ediv_of_nonneg (by omega)]
    have key : (y.life - y.used + s - 1) / s < c + 1 ↔ y.life - y.used + s - 1 < (c + 1) * s := Int.ediv_lt_iff_lt_mul (by omega)
    have e : (c + 1) * s = c * s + s := by rw [Int.add_mul, Int.one_mul]
    rw [e] at key
    by_cases q : y.used + c * s ≥ y.life
    · rw [decide_eq_true q]
      have := key.2 (by omega)
      exact decide_eq_true (by omega)
    · rw [decide_eq_false q]
      refine decide_eq_false (fun z => q ?_)
      have := key.1 (by omega)
      omega
theorem act1 {x : Entry} {cyc : Int} {y : Item} (hk : x.kind = 1) : act x cyc y = if y.faulty = true then (14, cyc, none) else if cyc + x.count > 1048576 ∨ y.used + x.count * x.strokes > 1048576 then (11, cyc, none) else (0, cyc + x.count, some ⟨y.name, y.life, y.used + x.count * x.strokes, y.faults, y.faulty, y.since, y.cycles + x.count⟩) := by
  unfold act
  rw [if_pos hk]
theorem do_cycles {m : Machine} {x : Entry} {A B : List Item} {y : Item} (g : Good m) (e : GoodE x) (hk : x.kind = 1) (c : Cut m.items x.name A (some y) B) (hf : y.faulty = false) (h1 : m.cycles + x.count ≤ 1048576) (h2 : y.used + x.count * x.strokes ≤ 1048576) :
    journal_Do m x = some (⟨A ++ (⟨y.name, y.life, y.used + x.count * x.strokes, y.faults, y.faulty, y.since, y.cycles + x.count⟩ :: B), m.cycles + x.count⟩, 0) := by
  rw [(do_good g e c).1]
  unfold res
  simp only
  rw [if_neg (by omega), act1 hk, hf, if_neg (by decide), if_neg (by omega)]
  rfl
theorem law_Adds (l : List Entry) (x : Entry) (first : Int) (hf0 : 0 ≤ first) (hf1 : first ≤ 65535) : law58_JournalAdds l x first = some true := by
  unfold law58_JournalAdds
  obtain ⟨b, hr, hrb⟩ := right_run l
  rw [hr, awake_true]
  simp only [Option.bind_some]
  by_cases hc : (((!b) || (decide ((x.name.length : Int) > 60))) || (x.kind != 1)) = true
  · rw [hc]
    rfl
  · rw [Bool.not_eq_true] at hc
    rw [hc]
    simp only [Bool.or_eq_false_iff, Bool.not_eq_false', decide_eq_false_iff_not, bne_eq_false_iff_eq] at hc
    obtain ⟨⟨hb, hx⟩, hk⟩ := hc
    obtain ⟨hs, hlen, h0⟩ := hrb hb
    have hx' : x.name.length ≤ 60 := by omega
    simp only [Bool.false_eq_true, if_false, (right_eq x hx').2, Option.bind_some]
    by_cases hrc : rcode x = 0
    · have eX := rcode_zero.1 hrc
      obtain ⟨r1, _⟩ := run_eq2 l hs (by omega)
      obtain ⟨g, glen, _⟩ := (runS_good l 0 ⟨[], 0⟩ hs good0).2 h0
      obtain ⟨m, hm⟩ : ∃ m, m = (runS 0 ⟨[], 0⟩ l).1 := ⟨_, rfl⟩
      rw [← hm] at g glen
      simp only [List.length_nil, Nat.zero_add] at glen
      obtain ⟨kc, k1, k2, k3⟩ := check_eq m (good_short g)
      have hkc := k3.2 g
      subst hkc
      simp only [hrc, bne_self_eq_false, Bool.false_eq_true, if_false, r1, Option.bind_some, h0, ← hm, own_eq m (by omega), k2]
      obtain ⟨A, o, B, c⟩ := cut_of x.name m.items g.srt
      cases o with
      | none =>
        have hd : journal_Do m x = some (⟨[], 0⟩, 6) := by
          rw [(do_good g eX c).1]
          unfold res
          simp only
          rw [if_neg (by omega)]
        rw [hd]
        rfl
      | some y =>
        have hyn := c.hit y rfl
        by_cases hbad : (act x m.cycles y).1 ≠ 0
        · have hd : journal_Do m x = some (⟨[], 0⟩, (act x m.cycles y).1) := by
            rw [(do_good g eX c).1]
            unfold res
            simp only
            rw [if_neg (by omega), fin_no hbad]
          have hcode : (act x m.cycles y).1 = 14 ∨ (act x m.cycles y).1 = 11 := by
            rw [act1 hk] at hbad ⊢
            cases hfy : y.faulty
            · rw [hfy] at hbad
              simp only [Bool.false_eq_true, if_false] at hbad ⊢
              by_cases hq : m.cycles + x.count > 1048576 ∨ y.used + x.count * x.strokes > 1048576
              · rw [if_pos hq]; exact .inr rfl
              · rw [if_neg hq] at hbad; exact absurd rfl hbad
            · simp only [if_true]; exact .inl trivial
          rw [hd]
          rcases hcode with q | q <;> (rw [q]; rfl)
        · have hfy : y.faulty = false := by
            cases q : y.faulty
            · rfl
            · rw [act1 hk, q] at hbad
              simp only [if_true] at hbad
              exact absurd (show (14 : Int) ≠ 0 by decide) hbad
          have hq : ¬ (m.cycles + x.count > 1048576 ∨ y.used + x.count * x.strokes > 1048576) := fun q => by
            rw [act1 hk, hfy] at hbad
            simp only [Bool.false_eq_true, if_false, if_pos q] at hbad
            exact absurd (show (11 : Int) ≠ 0 by decide) hbad
          have q1 : m.cycles + x.count ≤ 1048576 := by omega
          have q2 : y.used + x.count * x.strokes ≤ 1048576 := by omega
          have hwhole := do_cycles g eX hk c hfy q1 q2
          obtain ⟨cn0, cn1⟩ := eX.cn (.inr (.inl hk))
          obtain ⟨sn0, sn1⟩ := eX.sn hk
          have hml : m.items = A ++ y :: B := by rw [c.eq]; rfl
          have hmlen : A.length + (B.length + 1) ≤ 20 := by
            have : (A ++ y :: B).length ≤ 20 := by rw [← hml]; omega
            simpa using this
          obtain ⟨W, hW⟩ : ∃ W : Machine, W = ⟨A ++ (⟨y.name, y.life, y.used + x.count * x.strokes, y.faults, y.faulty, y.since, y.cycles + x.count⟩ :: B), m.cycles + x.count⟩ := ⟨_, rfl⟩
          have hWl : W.items.length ≤ 20 := by rw [hW]; simp; omega
          rw [← hW] at hwhole
          have gW : Good W := by
            obtain ⟨d0, d1, d2, d3, d4⟩ := do_eq m x (good_short g) hx'
            rw [hwhole] at d1
            have := Option.some.inj d1
            subst this
            exact (d4 rfl).2.2
          rw [hwhole]
          simp only [Option.bind_some, bne_self_eq_false, Bool.false_eq_true, if_false, joinK]
          have hk1 : (if (x.strokes == 0) = true then some true else
              (journal_Left m x.name x.strokes).bind fun r15 =>
                (journal_Due W).bind fun r16 =>
                  (if (IntKind.wrap .i64 (r15.2 + r16.2) == 0) = true then (slices_Contains_stringstring r16.1 x.name).bind fun r17 => some (r17 == (decide (x.count ≥ r15.1))) else some false).bind fun c5 =>
                    (if c5 = true then some true else some false).bind fun c6 => some c6) = some true := by
            by_cases hs0 : x.strokes = 0
            · rw [if_pos (by simpa using hs0)]
            · rw [if_neg (by simpa using hs0), (left_good g c x.strokes).1, (due_good gW).1]
              have hls : leftS (some y) x.strokes = (leftN y x.strokes, 0) := by
                unfold leftS
                simp only
                rw [if_pos (by omega)]
              have hdl : (dueL W.items).length ≤ 20 := by
                have := List.length_filter_le dueB W.items
                simp only [dueL, List.length_map]
                omega
              have hdue : decide (x.name ∈ dueL W.items) = decide (y.used + x.count * x.strokes ≥ y.life) := by
                rw [hW]
                refine (due_mem (y := ⟨y.name, y.life, y.used + x.count * x.strokes, y.faults, y.faulty, y.since, y.cycles + x.count⟩) (fun z hz => ltB_ne (c.lo z hz)) (fun z hz => (ltB_ne (c.hi z hz)).symm) hyn).trans ?_
                unfold dueB
                simp only [hfy, Bool.false_or]
              simp only [Option.bind_some, hls, contains_eq _ _ (by omega : (dueL W.items).length ≤ 4611686018427387904), hdue, left_due (y := y) (by omega : 1 ≤ x.strokes) cn0, BEq.rfl, if_true, show (IntKind.wrap .i64 (0 + 0) == 0) = true by kernel_rfl]
          by_cases hcnt : x.count > 1
          · rw [if_pos (decide_eq_true hcnt)]
            have w1 : IntKind.wrap .i64 (x.count - 1) = x.count - 1 := wrap64 (by omega) (by omega)
            have w2 : IntKind.wrap .i64 first = first := wrap64 (by omega) (by omega)
            have hmod : 0 ≤ Int.tmod first (x.count - 1) ∧ Int.tmod first (x.count - 1) < x.count - 1 := by
              rw [Int.tmod_eq_emod_of_nonneg hf0]
              exact ⟨Int.emod_nonneg _ (by omega), Int.emod_lt_of_pos _ (by omega)⟩
            have w3 : IntKind.wrap .i64 (Int.tmod first (x.count - 1) + 1) = Int.tmod first (x.count - 1) + 1 := wrap64 (by omega) (by omega)
            obtain ⟨k, hkk⟩ : ∃ k, k = Int.tmod first (x.count - 1) + 1 := ⟨_, rfl⟩
            rw [w1, w2, w3, ← hkk]
            have w4 : IntKind.wrap .i64 (x.count - k) = x.count - k := wrap64 (by omega) (by omega)
            have hg : guardO (x.count - 1 != 0) = some () := by unfold guardO; rw [if_pos (by simp; omega)]
            rw [w4, hg]
            simp only [Option.bind_some]
            have eA : GoodE ⟨x.kind, x.name, k, x.strokes⟩ := ⟨eX.k0, eX.k1, eX.nm, fun _ => by show 1 ≤ k ∧ k ≤ 1048576; omega, fun q => absurd (.inr (.inl hk)) q, eX.sn, eX.sz⟩
            have eB : GoodE ⟨x.kind, x.name, x.count - k, x.strokes⟩ := ⟨eX.k0, eX.k1, eX.nm, fun _ => by show 1 ≤ x.count - k ∧ x.count - k ≤ 1048576; omega, fun q => absurd (.inr (.inl hk)) q, eX.sn, eX.sz⟩
            have hsum : k * x.strokes + (x.count - k) * x.strokes = x.count * x.strokes := by rw [← Int.add_mul]; congr 1; omega
            have hp1 : 0 ≤ k * x.strokes := Int.mul_nonneg (by omega) sn0
            have hp2 : 0 ≤ (x.count - k) * x.strokes := Int.mul_nonneg (by omega) sn0
            have hhalf := do_cycles g eA hk c hfy (by show m.cycles + k ≤ 1048576; omega) (by show y.used + k * x.strokes ≤ 1048576; omega)
            obtain ⟨y1, hy1⟩ : ∃ y1 : Item, y1 = ⟨y.name, y.life, y.used + k * x.strokes, y.faults, y.faulty, y.since, y.cycles + k⟩ := ⟨_, rfl⟩
            obtain ⟨Hf, hHf⟩ : ∃ Hf : Machine, Hf = ⟨A ++ y1 :: B, m.cycles + k⟩ := ⟨_, rfl⟩
            simp only at hhalf
            rw [← hy1, ← hHf] at hhalf
            have gH : Good Hf := by
              obtain ⟨d0, d1, d2, d3, d4⟩ := do_eq m ⟨x.kind, x.name, k, x.strokes⟩ (good_short g) hx'
              rw [hhalf] at d1
              have := Option.some.inj d1
              subst this
              exact (d4 rfl).2.2
            have cH : Cut Hf.items x.name A (some y1) B := ⟨by rw [hHf]; rfl, c.lo, fun z hz => by cases hz; rw [hy1]; exact hyn, c.hi⟩
            have hboth := do_cycles gH eB hk cH (by rw [hy1]; exact hfy) (by rw [hHf]; show m.cycles + k + (x.count - k) ≤ 1048576; omega) (by rw [hy1]; show y.used + k * x.strokes + (x.count - k) * x.strokes ≤ 1048576; omega)
            have hfinal : journal_Do Hf ⟨x.kind, x.name, x.count - k, x.strokes⟩ = some (W, 0) := by
              rw [hboth, hW, hy1, hHf]
              simp only
              have t1 : y.used + k * x.strokes + (x.count - k) * x.strokes = y.used + x.count * x.strokes := by omega
              have t2 : y.cycles + k + (x.count - k) = y.cycles + x.count := by omega
              have t3 : m.cycles + k + (x.count - k) = m.cycles + x.count := by omega
              rw [t1, t2, t3]
            rw [hhalf]
            simp only [Option.bind_some, hfinal, show (IntKind.wrap .i64 (0 + 0) != 0) = false by kernel_rfl, Bool.false_eq_true, if_false, own_eq W (by omega), same_eq W (by omega), Bool.not_true]
            exact hk1
          · rw [if_neg (by rw [decide_eq_true_eq]; exact hcnt)]
            exact hk1
    · have hb2 : (rcode x != 0) = true := by simpa using hrc
      simp only [hb2, if_true]
end Go.Proofs.YtpigfknmlmeihaaDoor.W
