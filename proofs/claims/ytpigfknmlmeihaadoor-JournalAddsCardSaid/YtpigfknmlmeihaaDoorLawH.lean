/- The plain laws of the journal, eighth part: the laws JournalSwaps and JournalAdds. -/
import Derived.Test.YtpigfknmlmeihaaDoorLawG
set_option linter.unusedVariables false
set_option linter.unusedSimpArgs false
set_option maxHeartbeats 2000000
namespace Go.Proofs.YtpigfknmlmeihaaDoor.W
open Go Go.RowKit
theorem right_run (l : List Entry) : ∃ b, law58_right l = some b ∧ (b = true → SmallE l ∧ l.length ≤ 20 ∧ (runS 0 ⟨[], 0⟩ l).2.2 = 0) := by
  unfold law58_right
  by_cases h : l.length ≤ 20
  · have hd : decide ((l.length : Int) > 20) = false := decide_eq_false (by omega)
    obtain ⟨b, hf, hfb⟩ := fewE_eq l (by omega)
    simp only [hd, Bool.false_eq_true, if_false, entries_eq l (by omega), Option.bind_some, hf]
    cases b with
    | false => exact ⟨false, rfl, by simp⟩
    | true =>
      obtain ⟨h1, h2, h3⟩ := hfb rfl
      simp only [Bool.not_true, Bool.false_eq_true, if_false, (run_eq2 l h3 (by omega)).2, Option.bind_some]
      exact ⟨_, rfl, fun q => ⟨h3, h, by simpa using q⟩⟩
  · have hd : decide ((l.length : Int) > 20) = true := decide_eq_true (by omega)
    simp only [hd, if_true, Option.bind_some]
    exact ⟨false, rfl, by simp⟩
/-- what an entry does, where there is room -/
def outx (x : Entry) (cyc : Int) (o : Option Item) : Int × Int × Option Item :=
  match o with
  | some y => if x.kind = 0 then (7, cyc, none) else act x cyc y
  | none => if x.kind = 0 then (0, cyc, some (fresh x cyc)) else (6, cyc, none)
theorem res_out {x : Entry} {cyc : Int} {A B : List Item} {o : Option Item} (h : (A ++ (o.toList ++ B)).length < 256) : res x cyc A o B = fin A B (outx x cyc o) := by
  unfold res outx
  cases o with
  | none =>
    simp only
    by_cases k : x.kind = 0
    · simp only [if_pos k]
      have hl : (A ++ B).length ≠ 256 := by
        simp only [Option.toList_none, List.nil_append] at h
        omega
      rw [if_neg hl]
      rfl
    · simp only [if_neg k]
      rfl
  | some y =>
    simp only
    by_cases k : x.kind = 0
    · simp only [if_pos k]
      rfl
    · simp only [if_neg k]
theorem out_name {x : Entry} {cyc : Int} {o : Option Item} (ho : ∀ y, o = some y → y.name = x.name) : ∀ z, (outx x cyc o).2.2 = some z → z.name = x.name := by
  intro z hz
  unfold outx at hz
  cases o with
  | none =>
    simp only at hz
    split at hz
    · cases hz; rfl
    · cases hz
  | some y =>
    have hy := ho y rfl
    simp only at hz
    split at hz
    · cases hz
    · unfold act at hz
      repeat' split at hz
      all_goals first | (cases hz; exact hy) | (cases hz; rfl) | cases hz
theorem out_still {y : Entry} (hk : y.kind = 2 ∨ y.kind = 3 ∨ y.kind = 5) (p : Option Item) : ∃ e p', ∀ cyc, outx y cyc p = (e, cyc, p') := by
  unfold outx act
  have k0 : ¬ y.kind = 0 := by omega
  have k1 : ¬ y.kind = 1 := by omega
  have k4 : ¬ y.kind = 4 := by omega
  cases p with
  | none => exact ⟨6, none, fun cyc => by simp only [if_neg k0]⟩
  | some z =>
    simp only [if_neg k0, if_neg k1, if_neg k4]
    by_cases k2 : y.kind = 2
    · simp only [if_pos k2]
      cases z.faulty
      · by_cases hf : z.faults = 4096
        · exact ⟨5, none, fun cyc => by simp only [Bool.false_eq_true, if_false, if_pos hf]⟩
        · exact ⟨0, some ⟨z.name, z.life, z.used, z.faults + 1, true, z.since, z.cycles⟩, fun cyc => by simp only [Bool.false_eq_true, if_false, if_neg hf]⟩
      · exact ⟨14, none, fun cyc => by simp only [if_true]⟩
    · simp only [if_neg k2]
      by_cases k3 : y.kind = 3
      · simp only [if_pos k3]
        cases z.faulty
        · exact ⟨14, none, fun cyc => by simp only [Bool.false_eq_true, if_false]⟩
        · exact ⟨0, some ⟨z.name, z.life, z.used, z.faults, false, z.since, z.cycles⟩, fun cyc => by simp only [if_true]⟩
      · simp only [if_neg k3]
        exact ⟨0, none, fun cyc => rfl⟩
/-- the places of two names in one machine -/
theorem two_names (nx ny : List UInt8) (hne : nx ≠ ny) (l : List Item) (s : l.Pairwise fun x y => ltB x.name y.name) :
    ∃ (L : Option Item → Option Item → List Item) (AX BX : Option Item → List Item) (AY BY : Option Item → List Item) (o p : Option Item), l = L o p ∧ (∀ y, o = some y → y.name = nx) ∧ (∀ y, p = some y → y.name = ny) ∧
      (∀ o p, (∀ y, o = some y → y.name = nx) → (∀ y, p = some y → y.name = ny) → Cut (L o p) nx (AX p) o (BX p) ∧ Cut (L o p) ny (AY o) p (BY o)) ∧ (∀ o p, L o p = AX p ++ (o.toList ++ BX p)) ∧ (∀ o p, L o p = AY o ++ (p.toList ++ BY o)) := by
  obtain ⟨A, o, B', c⟩ := cut_of nx l s
  obtain ⟨sA, sB⟩ := cut_srt c s
  have hox : ∀ (o : Option Item), (∀ y, o = some y → y.name = nx) → ∀ z ∈ o.toList, z.name = nx := fun o h z hz => h z (by simpa using hz)
  cases hlt : Op.bytesLess nx ny
  · have hyx := ltB_tri hlt hne
    obtain ⟨A1, p, A2, d⟩ := cut_of ny A sA
    have e0 : ∀ o p : Option Item, A1 ++ (p.toList ++ (A2 ++ (o.toList ++ B'))) = (A1 ++ (p.toList ++ A2)) ++ (o.toList ++ B') := fun o p => by simp
    refine ⟨fun o p => A1 ++ (p.toList ++ (A2 ++ (o.toList ++ B'))), fun p => A1 ++ (p.toList ++ A2), fun _ => B', fun _ => A1, fun o => A2 ++ (o.toList ++ B'), o, p, ?_, c.hit, d.hit, fun o p ho hp => ⟨⟨e0 o p, fun z hz => ?_, ho, c.hi⟩, ⟨rfl, d.lo, hp, fun z hz => ?_⟩⟩, e0, fun _ _ => rfl⟩
    · rw [c.eq, d.eq]
      exact (e0 o p).symm
    · rcases List.mem_append.1 hz with q | q
      · exact ltB_trans (d.lo z q) hyx
      · rcases List.mem_append.1 q with q | q
        · rw [hp z (by simpa using q)]
          exact hyx
        · exact c.lo z (by rw [d.eq]; simp [q])
    · rcases List.mem_append.1 hz with q | q
      · exact d.hi z q
      · rcases List.mem_append.1 q with q | q
        · rw [hox o ho z q]
          exact hyx
        · exact ltB_trans hyx (c.hi z q)
  · obtain ⟨B, p, C, d⟩ := cut_of ny B' sB
    have e0 : ∀ o p : Option Item, A ++ (o.toList ++ (B ++ (p.toList ++ C))) = (A ++ (o.toList ++ B)) ++ (p.toList ++ C) := fun o p => by simp
    refine ⟨fun o p => A ++ (o.toList ++ (B ++ (p.toList ++ C))), fun _ => A, fun p => B ++ (p.toList ++ C), fun o => A ++ (o.toList ++ B), fun _ => C, o, p, ?_, c.hit, d.hit, fun o p ho hp => ⟨⟨rfl, c.lo, ho, fun z hz => ?_⟩, ⟨e0 o p, fun z hz => ?_, hp, d.hi⟩⟩, fun _ _ => rfl, e0⟩
    · rw [c.eq, d.eq]
    · rcases List.mem_append.1 hz with q | q
      · exact c.hi z (by rw [d.eq]; simp [q])
      · rcases List.mem_append.1 q with q | q
        · rw [hp z (by simpa using q)]
          exact hlt
        · exact ltB_trans hlt (d.hi z q)
    · rcases List.mem_append.1 hz with q | q
      · exact ltB_trans (c.lo z q) hlt
      · rcases List.mem_append.1 q with q | q
        · rw [hox o ho z q]
          exact hlt
        · exact d.lo z q
theorem do_bad {m : Machine} {y : Entry} (g : Good m) (hn : y.name.length ≤ 60) (h : ¬ GoodE y) : journal_Do m y = some (⟨[], 0⟩, rcode y) := by
  obtain ⟨k, h1, h2, h3⟩ := check_eq m (good_short g)
  have hk := h3.2 g
  subst hk
  have hr : (rcode y != 0) = true := by simpa using fun q => h (rcode_zero.1 q)
  unfold journal_Do
  rw [h1, (right_eq y hn).1]
  simp only [Option.bind_some, bne_self_eq_false, Bool.false_eq_true, if_false, hr, if_true]
theorem fin_ok {A B : List Item} {r : Int × Int × Option Item} (h : r.1 = 0) : fin A B r = (⟨A ++ (r.2.2.toList ++ B), r.2.1⟩, 0) := by
  unfold fin
  rw [if_pos h]
theorem fin_no {A B : List Item} {r : Int × Int × Option Item} (h : r.1 ≠ 0) : fin A B r = (⟨[], 0⟩, r.1) := by
  unfold fin
  rw [if_neg h]
theorem swap_core (m : Machine) (x y : Entry) (g : Good m) (hl : m.items.length ≤ 20) (eX : GoodE x) (hny : y.name.length ≤ 60) (hne : x.name ≠ y.name) (hk : y.kind = 2 ∨ y.kind = 3 ∨ y.kind = 5) (a : Machine) (ha : journal_Do m x = some (a, 0)) :
    ∃ b c e f, journal_Do a y = some (b, e) ∧ journal_Do m y = some (c, f) ∧ e = f ∧ (e = 0 → b.items.length ≤ 256 ∧ journal_Do c x = some (b, 0)) := by
  obtain ⟨d0, d1, d2, d3, d4⟩ := do_eq m x (good_short g) (by have := goodE_short eX; omega)
  rw [ha] at d1
  have hd := Option.some.inj d1
  subst hd
  obtain ⟨_, _, ga⟩ := d4 rfl
  by_cases eY : GoodE y
  · obtain ⟨L, AX, BX, AY, BY, o, p, hL, ho, hp, hcut, hx, hy⟩ := two_names x.name y.name hne m.items g.srt
    obtain ⟨c1, c2⟩ := hcut o p ho hp
    rw [← hL] at c1 c2
    have l1 : (AX p ++ (o.toList ++ BX p)).length < 256 := by rw [← hx, ← hL]; omega
    have l2 : (AY o ++ (p.toList ++ BY o)).length < 256 := by rw [← hy, ← hL]; omega
    have hdx := (do_good g eX c1).1
    rw [res_out l1, ha] at hdx
    have hdx := Option.some.inj hdx
    have e0 : (outx x m.cycles o).1 = 0 := by
      by_cases q : (outx x m.cycles o).1 = 0
      · exact q
      · rw [fin_no q] at hdx
        have := congrArg Prod.snd hdx
        exact absurd this.symm q
    rw [fin_ok e0] at hdx
    have hon := out_name (cyc := m.cycles) ho
    obtain ⟨cyc', o', hoq⟩ : ∃ cyc' o', outx x m.cycles o = (0, cyc', o') := ⟨_, _, by rw [← e0]⟩
    rw [hoq] at hdx hon
    simp only at hdx hon
    have hal : a = ⟨L o' p, cyc'⟩ := by
      have := congrArg Prod.fst hdx
      rw [hx]
      exact this
    obtain ⟨_, c3⟩ := hcut o' p hon hp
    obtain ⟨e, p', hst⟩ := out_still hk p
    have hpn : ∀ z, p' = some z → z.name = y.name := by
      have := out_name (x := y) (cyc := 0) hp
      rw [hst] at this
      exact this
    have hlen' : (L o' p).length ≤ 21 := by
      have h1 : (L o' p).length ≤ (L o p).length + 1 := by
        rw [hx, hx]
        simp only [List.length_append]
        have : o'.toList.length ≤ 1 := by cases o' <;> simp
        omega
      rw [← hL] at h1
      omega
    have l3 : (AY o' ++ (p.toList ++ BY o')).length < 256 := by rw [← hy]; omega
    have hay : journal_Do a y = some (fin (AY o') (BY o') (e, cyc', p')) := by
      rw [hal] at ga ⊢
      have := (do_good ga eY c3).1
      rw [res_out l3, hst] at this
      exact this
    have hmy : journal_Do m y = some (fin (AY o) (BY o) (e, m.cycles, p')) := by
      have := (do_good g eY c2).1
      rw [res_out l2, hst] at this
      exact this
    by_cases he : e = 0
    · subst he
      rw [fin_ok (by rfl)] at hay hmy
      simp only at hay hmy
      rw [← hy] at hay hmy
      refine ⟨_, _, _, _, hay, hmy, rfl, fun _ => ?_⟩
      obtain ⟨q, q1, q2, q3, q4⟩ := do_eq m y (good_short g) hny
      rw [hmy] at q1
      have hq := Option.some.inj q1
      subst hq
      obtain ⟨_, _, gc⟩ := q4 rfl
      obtain ⟨c5, _⟩ := hcut o p' ho hpn
      have hle : ∀ o2 : Option Item, (L o2 p').length ≤ (L o2 p).length + 1 := fun o2 => by
        rw [hy, hy]
        simp only [List.length_append]
        have : p'.toList.length ≤ 1 := by cases p' <;> simp
        omega
      have l4 : (AX p' ++ (o.toList ++ BX p')).length < 256 := by
        rw [← hx]
        have := hle o
        rw [← hL] at this
        omega
      have hcx := (do_good gc eX c5).1
      simp only at hcx
      rw [res_out l4, hoq, fin_ok (by rfl)] at hcx
      simp only at hcx
      rw [← hx] at hcx
      refine ⟨?_, hcx⟩
      have := hle o'
      show (L o' p').length ≤ 256
      omega
    · rw [fin_no (by exact he)] at hay hmy
      exact ⟨_, _, _, _, hay, hmy, rfl, fun q => absurd q he⟩
  · exact ⟨_, _, _, _, do_bad ga hny eY, do_bad g hny eY, rfl, fun q => absurd (rcode_zero.1 q) eY⟩
theorem law_Swaps (l : List Entry) (x y : Entry) : law58_JournalSwaps l x y = some true := by
  unfold law58_JournalSwaps
  obtain ⟨b, hr, hrb⟩ := right_run l
  rw [hr, awake_true]
  simp only [Option.bind_some]
  by_cases hc : (((((!b) || (decide ((x.name.length : Int) > 60))) || (decide ((y.name.length : Int) > 60))) || (x.name == y.name)) || (((y.kind != 2) && (y.kind != 3)) && (y.kind != 5))) = true
  · rw [if_pos hc]
  · rw [if_neg hc]
    simp only [Bool.not_eq_true, Bool.or_eq_false_iff, Bool.not_eq_false', decide_eq_false_iff_not, beq_eq_false_iff_ne, ne_eq, Bool.and_eq_false_iff, bne_eq_false_iff_eq] at hc
    obtain ⟨⟨⟨⟨hb, hx⟩, hy⟩, hne⟩, hk⟩ := hc
    obtain ⟨hs, hlen, h0⟩ := hrb hb
    have hx' : x.name.length ≤ 60 := by omega
    have hy' : y.name.length ≤ 60 := by omega
    obtain ⟨r1, _⟩ := run_eq2 l hs (by omega)
    obtain ⟨g, glen, _⟩ := (runS_good l 0 ⟨[], 0⟩ hs good0).2 h0
    obtain ⟨m, hm⟩ : ∃ m, m = (runS 0 ⟨[], 0⟩ l).1 := ⟨_, rfl⟩
    rw [← hm] at g glen
    simp only [List.length_nil, Nat.zero_add] at glen
    have hd : decide ((m.items.length : Int) > 20) = false := decide_eq_false (by omega)
    simp only [r1, Option.bind_some, h0, ← hm, hd, bne_self_eq_false, Bool.or_self, Bool.false_eq_true, if_false]
    obtain ⟨⟨a, ae⟩, d1, d2, d3, d4⟩ := do_eq m x (good_short g) hx'
    rw [d1]
    simp only [Option.bind_some]
    by_cases hae : ae = 0
    · subst hae
      obtain ⟨_, eX, _⟩ := d4 rfl
      have hk' : y.kind = 2 ∨ y.kind = 3 ∨ y.kind = 5 := by
        rcases hk with (q | q) | q
        · exact .inl q
        · exact .inr (.inl q)
        · exact .inr (.inr q)
      obtain ⟨b2, c2, e, f, s1, s2, s3, s4⟩ := swap_core m x y g (by omega) eX hy' hne hk' a d1
      subst s3
      simp only [bne_self_eq_false, Bool.false_eq_true, if_false, s1, s2, Option.bind_some, Bool.or_self]
      by_cases he : e = 0
      · obtain ⟨s5, s6⟩ := s4 he
        subst he
        simp only [bne_self_eq_false, Bool.false_eq_true, if_false, s6, Option.bind_some, BEq.rfl, if_true, own_eq b2 (by omega), same_eq b2 (by omega)]
      · have hb2 : (e != 0) = true := by simpa using he
        simp only [hb2, if_true, BEq.rfl, Option.bind_some]
    · have hb2 : (ae != 0) = true := by simpa using hae
      simp only [hb2, if_true]
end Go.Proofs.YtpigfknmlmeihaaDoor.W
