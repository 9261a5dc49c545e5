/- The plain laws of the journal, fifth part: Right, Do, Due, Left; the laws JournalDoes and JournalAsks. -/
import Derived.Test.YtpocodofhkaddaaGreatDoorLawD
set_option linter.unusedVariables false
set_option linter.unusedSimpArgs false
set_option maxHeartbeats 2000000
namespace Go.Proofs.YtpocodofhkaddaaGreatDoor.W
open Go Go.RowKit
def rcode (x : Entry) : Int :=
  if ¬ (0 ≤ x.kind ∧ x.kind ≤ 5) then 1 else if word x.name ≠ 0 then word x.name
  else if x.kind = 0 ∨ x.kind = 1 ∨ x.kind = 4 then
    (if ¬ (1 ≤ x.count ∧ x.count ≤ 1048576) then 2 else if x.kind = 1 then (if ¬ (0 ≤ x.strokes ∧ x.strokes ≤ 1048576) then 2 else 0) else if x.strokes ≠ 0 then 2 else 0)
  else if x.count ≠ 0 then 2 else if x.strokes ≠ 0 then 2 else 0
theorem rcode_zero {x : Entry} : rcode x = 0 ↔ GoodE x := by
  unfold rcode
  constructor
  · intro h
    split at h
    · cases h
    · rename_i hk
      split at h
      · rename_i hw; exact absurd h hw
      · rename_i hw
        have hw0 : word x.name = 0 := Decidable.not_not.1 hw
        split at h
        · rename_i hc
          split at h
          · cases h
          · split at h
            · rename_i h1
              split at h
              · cases h
              · exact ⟨by omega, by omega, hw0, fun _ => by omega, fun q => absurd hc q, fun _ => by omega, fun q => absurd h1 q⟩
            · rename_i h1
              split at h
              · cases h
              · exact ⟨by omega, by omega, hw0, fun _ => by omega, fun q => absurd hc q, fun q => absurd q h1, fun _ => by omega⟩
        · rename_i hc
          split at h
          · cases h
          · split at h
            · cases h
            · exact ⟨by omega, by omega, hw0, fun q => absurd q hc, fun _ => by omega, fun q => absurd (.inr (.inl q)) hc, fun _ => by omega⟩
  · intro e
    have := e.k0; have := e.k1
    rw [if_neg (by omega), if_neg (by rw [e.nm]; simp)]
    by_cases hc : x.kind = 0 ∨ x.kind = 1 ∨ x.kind = 4
    · have := e.cn hc
      rw [if_pos hc, if_neg (by omega)]
      by_cases h1 : x.kind = 1
      · have := e.sn h1
        rw [if_pos h1, if_neg (by omega)]
      · have := e.sz h1
        rw [if_neg h1, if_neg (by omega)]
    · have := e.cz hc
      have := e.sz (fun q => hc (.inr (.inl q)))
      rw [if_neg hc, if_neg (by omega), if_neg (by omega)]
theorem in_dec {a lo hi : Int} : (decide (a ≥ lo) && decide (a ≤ hi)) = decide (lo ≤ a ∧ a ≤ hi) := by
  by_cases h : lo ≤ a ∧ a ≤ hi
  · simp [h]
  · rw [decide_eq_false h, ← Bool.not_eq_true, Bool.and_eq_true]
    simpa using h
theorem right_eq (x : Entry) (hn : x.name.length ≤ 60) : journal_Right x = some (rcode x) ∧ ref58_Right x = some (rcode x) := by
  obtain ⟨kind, name, count, strokes⟩ := x
  have hn' : name.length ≤ 60 := hn
  unfold journal_Right ref58_Right rcode journal_in ref58_in ref58_counted joinK
  simp only [in_dec, lword_eq name (by omega), rword_eq name (by omega), Option.bind_some]
  by_cases hk : 0 ≤ kind ∧ kind ≤ 5
  · simp only [decide_eq_true hk, Bool.not_true, Bool.false_eq_true, if_false, if_neg (not_not_intro hk)]
    by_cases hw : word name = 0
    · simp only [hw, bne_self_eq_false, Bool.false_eq_true, if_false, ne_eq, not_true_eq_false]
      have hcases : kind = 0 ∨ kind = 1 ∨ kind = 2 ∨ kind = 3 ∨ kind = 4 ∨ kind = 5 := by omega
      by_cases h1 : 1 ≤ count ∧ count ≤ 1048576 <;> by_cases h2 : 0 ≤ strokes ∧ strokes ≤ 1048576 <;> by_cases h3 : count = 0 <;> by_cases h4 : strokes = 0 <;> rcases hcases with rfl | rfl | rfl | rfl | rfl | rfl <;> simp [h1, h2, h3, h4]
    · have b : (word name != 0) = true := by simpa using hw
      simp only [b, if_true, ne_eq, hw, not_false_eq_true]
      exact ⟨trivial, trivial⟩
  · simp only [decide_eq_false hk, Bool.not_false, if_true, if_pos hk]
    exact ⟨trivial, trivial⟩
theorem fresh_ok {x : Entry} {cyc : Int} (hw : word x.name = 0) (h1 : 1 ≤ x.count) (h2 : x.count ≤ 1048576) (h3 : 0 ≤ cyc) : IOk cyc (fresh x cyc) :=
  ⟨hw, h1, h2, Int.le_refl 0, by show (0 : Int) ≤ 1048576; decide, Int.le_refl 0, by show (0 : Int) ≤ 4096; decide, h3, Int.le_refl 0, by show cyc + 0 ≤ cyc; omega, fun q => by cases q⟩
theorem act_good {x : Entry} {m : Machine} {y : Item} (g : Good m) (e : GoodE x) (hy : IOk m.cycles y) (h : (act x m.cycles y).1 = 0) : m.cycles ≤ (act x m.cycles y).2.1 ∧ (act x m.cycles y).2.1 ≤ 1048576 ∧ ∀ z, (act x m.cycles y).2.2 = some z → IOk (act x m.cycles y).2.1 z ∧ (x.kind = 4 → z.name = x.name) ∧ (x.kind ≠ 4 → z.name = y.name) := by
  have hcnt : 0 ≤ x.count ∧ x.count ≤ 1048576 := by
    by_cases h : x.kind = 0 ∨ x.kind = 1 ∨ x.kind = 4
    · have := e.cn h; omega
    · have := e.cz h; omega
  have hst : 0 ≤ x.strokes ∧ x.strokes ≤ 1048576 := by
    by_cases h : x.kind = 1
    · exact e.sn h
    · have := e.sz h; omega
  have hm := mulB hcnt.1 hcnt.2 hst.1 hst.2
  have := g.c0; have := g.c1
  obtain ⟨h0, h1, h2, h3, h4, h5, h6, h7, h8, h9, h10⟩ := hy
  unfold act at h ⊢
  by_cases k1 : x.kind = 1
  · simp only [if_pos k1] at h ⊢
    cases hf : y.faulty
    · simp only [hf, Bool.false_eq_true, if_false] at h ⊢
      by_cases hq : m.cycles + x.count > 1048576 ∨ y.used + x.count * x.strokes > 1048576
      · simp only [if_pos hq] at h; cases h
      · simp only [if_neg hq] at h ⊢
        refine ⟨by omega, by omega, fun z hz => ?_⟩
        cases hz
        exact ⟨⟨h0, h1, h2, by show 0 ≤ y.used + x.count * x.strokes; omega, by show y.used + x.count * x.strokes ≤ 1048576; omega, h5, h6, h7, by show 0 ≤ y.cycles + x.count; omega, by show y.since + (y.cycles + x.count) ≤ m.cycles + x.count; omega, fun q => by cases q⟩, fun q => by omega, fun _ => rfl⟩
    · simp only [hf, if_true] at h; cases h
  · simp only [if_neg k1] at h ⊢
    by_cases k2 : x.kind = 2
    · simp only [if_pos k2] at h ⊢
      cases hf : y.faulty
      · simp only [hf, Bool.false_eq_true, if_false] at h ⊢
        by_cases hq : y.faults = 4096
        · simp only [if_pos hq] at h; cases h
        · simp only [if_neg hq] at h ⊢
          refine ⟨by omega, by omega, fun z hz => ?_⟩
          cases hz
          exact ⟨⟨h0, h1, h2, h3, h4, by show 0 ≤ y.faults + 1; omega, by show y.faults + 1 ≤ 4096; omega, h7, h8, h9, fun _ => by show y.faults + 1 ≠ 0; omega⟩, fun q => by omega, fun _ => rfl⟩
      · simp only [hf, if_true] at h; cases h
    · simp only [if_neg k2] at h ⊢
      by_cases k3 : x.kind = 3
      · simp only [if_pos k3] at h ⊢
        cases hf : y.faulty
        · simp only [hf, Bool.false_eq_true, if_false] at h; cases h
        · simp only [hf, if_true] at h ⊢
          refine ⟨by omega, by omega, fun z hz => ?_⟩
          cases hz
          exact ⟨⟨h0, h1, h2, h3, h4, h5, h6, h7, h8, h9, fun q => by cases q⟩, fun q => by omega, fun _ => rfl⟩
      · simp only [if_neg k3] at h ⊢
        by_cases k4 : x.kind = 4
        · simp only [if_pos k4] at h ⊢
          have hc := e.cn (.inr (.inr k4))
          refine ⟨by omega, by omega, fun z hz => ?_⟩
          cases hz
          exact ⟨fresh_ok e.nm hc.1 hc.2 g.c0, fun _ => rfl, fun q => absurd k4 q⟩
        · simp only [if_neg k4] at h ⊢
          exact ⟨by omega, by omega, fun z hz => by cases hz⟩
theorem IOk.more {a b : Int} {x : Item} (h : IOk a x) (k : a ≤ b) : IOk b x := by
  obtain ⟨h0, h1, h2, h3, h4, h5, h6, h7, h8, h9, h10⟩ := h
  exact ⟨h0, h1, h2, h3, h4, h5, h6, h7, h8, by omega, h10⟩
theorem cut_srt {l : List Item} {name : List UInt8} {A B : List Item} {o : Option Item} (c : Cut l name A o B) (s : l.Pairwise fun x y => ltB x.name y.name) : (A.Pairwise fun x y => ltB x.name y.name) ∧ (B.Pairwise fun x y => ltB x.name y.name) := by
  rw [c.eq] at s
  obtain ⟨h1, h2, _⟩ := List.pairwise_append.1 s
  exact ⟨h1, (List.pairwise_append.1 h2).2.1⟩
theorem srt_mk {name : List UInt8} {A B : List Item} {o : Option Item} (hA : A.Pairwise fun x y => ltB x.name y.name) (hB : B.Pairwise fun x y => ltB x.name y.name) (lo : ∀ x ∈ A, ltB x.name name) (hi : ∀ x ∈ B, ltB name x.name) (ho : ∀ y, o = some y → y.name = name) : (A ++ (o.toList ++ B)).Pairwise fun x y => ltB x.name y.name := by
  refine List.pairwise_append.2 ⟨hA, ?_, fun x hx y hy => ?_⟩
  · cases o with
    | none => exact hB
    | some z => exact List.pairwise_cons.2 ⟨fun y hy => by rw [ho z rfl]; exact hi y hy, hB⟩
  · rcases List.mem_append.1 hy with q | q
    · rw [ho y (by simpa using q)]
      exact lo x hx
    · exact ltB_trans (lo x hx) (hi y q)
theorem res_good {x : Entry} {m : Machine} {A B : List Item} {o : Option Item} (g : Good m) (e : GoodE x) (c : Cut m.items x.name A o B) (h : (res x m.cycles A o B).2 = 0) : Good (res x m.cycles A o B).1 := by
  have hs := cut_srt c g.srt
  have hlen : A.length + (o.toList.length + B.length) ≤ 256 := by
    have := g.len
    rw [c.eq, List.length_append, List.length_append] at this
    exact this
  have hokA : ∀ z ∈ A, IOk m.cycles z := fun z hz => g.ok z (by rw [c.eq]; simp [hz])
  have hokB : ∀ z ∈ B, IOk m.cycles z := fun z hz => g.ok z (by rw [c.eq]; simp [hz])
  cases o with
  | none =>
    unfold res at h ⊢
    simp only at h ⊢
    by_cases k0 : x.kind = 0
    · rw [if_pos k0] at h ⊢
      by_cases h256 : (A ++ B).length = 256
      · rw [if_pos h256] at h; cases h
      · rw [if_neg h256] at h ⊢
        have hc := e.cn (.inl k0)
        have := g.c0
        simp only [Option.toList_none, List.length_nil, Nat.zero_add] at hlen
        rw [List.length_append] at h256
        refine ⟨g.c0, g.c1, ?_, fun z hz => ?_, ?_⟩
        · simp only [List.length_append, List.length_cons]
          omega
        · rcases List.mem_append.1 hz with q | q
          · exact hokA z q
          · rcases List.mem_cons.1 q with rfl | q
            · exact fresh_ok e.nm hc.1 hc.2 g.c0
            · exact hokB z q
        · exact srt_mk (o := some (fresh x m.cycles)) hs.1 hs.2 c.lo c.hi (fun y hy => by cases hy; rfl)
    · rw [if_neg k0] at h; cases h
  | some y =>
    have hy : IOk m.cycles y := g.ok y (by rw [c.eq]; simp)
    unfold res at h ⊢
    simp only at h ⊢
    by_cases k0 : x.kind = 0
    · rw [if_pos k0] at h; cases h
    · rw [if_neg k0] at h ⊢
      unfold fin at h ⊢
      by_cases ha : (act x m.cycles y).1 = 0
      · rw [if_pos ha] at h ⊢
        obtain ⟨b1, b2, b3⟩ := act_good g e hy ha
        have := g.c0
        have hol : (act x m.cycles y).2.2.toList.length ≤ 1 := by cases (act x m.cycles y).2.2 <;> simp
        simp only [Option.toList_some, List.length_cons, List.length_nil] at hlen
        refine ⟨by show 0 ≤ (act x m.cycles y).2.1; omega, b2, ?_, fun z hz => ?_, ?_⟩
        · simp only [List.length_append]
          omega
        · rcases List.mem_append.1 hz with q | q
          · exact (hokA z q).more b1
          · rcases List.mem_append.1 q with q | q
            · exact (b3 z (by simpa using q)).1
            · exact (hokB z q).more b1
        · refine srt_mk hs.1 hs.2 c.lo c.hi (fun z hz => ?_)
          by_cases k4 : x.kind = 4
          · exact (b3 z hz).2.1 k4
          · rw [(b3 z hz).2.2 k4]
            exact c.hit y rfl
      · rw [if_neg ha] at h
        exact absurd h ha
theorem res_bad {x : Entry} {cyc : Int} {A B : List Item} {o : Option Item} (h : (res x cyc A o B).2 ≠ 0) : (res x cyc A o B).1 = ⟨[], 0⟩ := by
  unfold res fin at h ⊢
  repeat' split
  all_goals first | rfl | (exfalso; simp_all)
theorem done_eq {m : Machine} {x : Entry} {A B : List Item} {o : Option Item} (g : Good m) (e : GoodE x) (c : Cut m.items x.name A o B) : journal_done m x = some (res x m.cycles A o B) ∧ ref58_Done m x = some (res x m.cycles A o B) := by
  cases o with
  | none => exact ⟨jdone_miss g e c, rdone_miss g e c⟩
  | some y => exact ⟨jdone_hit g e c, rdone_hit g e c⟩
theorem good_short {m : Machine} (g : Good m) : Short m.items := fun x hx => by
  have h := (g.ok x hx).1
  cases hn : x.name with
  | nil => simp
  | cons b r =>
    rw [hn, word_cons] at h
    split at h
    · cases h
    · split at h
      · cases h
      · split at h
        · cases h
        · omega
theorem goodE_short {x : Entry} (e : GoodE x) : x.name.length ≤ 24 := by
  have h := e.nm
  cases hn : x.name with
  | nil => simp
  | cons b r =>
    rw [hn, word_cons] at h
    split at h
    · cases h
    · split at h
      · cases h
      · split at h
        · cases h
        · omega
theorem do_good {m : Machine} {x : Entry} {A B : List Item} {o : Option Item} (g : Good m) (e : GoodE x) (c : Cut m.items x.name A o B) : journal_Do m x = some (res x m.cycles A o B) ∧ ref58_Do m x = some (res x m.cycles A o B) := by
  obtain ⟨k, h1, h2, h3⟩ := check_eq m (good_short g)
  obtain ⟨r1, r2⟩ := right_eq x (by have := goodE_short e; omega)
  obtain ⟨d1, d2⟩ := done_eq g e c
  have hk := h3.2 g
  have hr := rcode_zero.2 e
  subst hk
  rw [hr] at r1 r2
  unfold journal_Do ref58_Do
  rw [h1, h2, r1, r2, d1, d2]
  exact ⟨rfl, rfl⟩
/-- Do, of both sides -/
theorem do_eq (m : Machine) (x : Entry) (hs : Short m.items) (hn : x.name.length ≤ 60) : ∃ r, journal_Do m x = some r ∧ ref58_Do m x = some r ∧ r.1.items.length ≤ 256 ∧ (r.2 = 0 → Good m ∧ GoodE x ∧ Good r.1) := by
  obtain ⟨k, h1, h2, h3⟩ := check_eq m hs
  obtain ⟨r1, r2⟩ := right_eq x hn
  by_cases g : Good m
  · by_cases e : GoodE x
    · obtain ⟨A, o, B, c⟩ := cut_of x.name m.items g.srt
      obtain ⟨d1, d2⟩ := do_good g e c
      refine ⟨_, d1, d2, ?_, fun h => ⟨g, e, res_good g e c h⟩⟩
      by_cases h : (res x m.cycles A o B).2 = 0
      · exact (res_good g e c h).len
      · rw [res_bad h]
        simp
    · have hr : rcode x ≠ 0 := fun q => e (rcode_zero.1 q)
      have hk := h3.2 g
      subst hk
      have b : (rcode x != 0) = true := by simpa using hr
      refine ⟨(⟨[], 0⟩, rcode x), ?_, ?_, by simp, fun h => absurd h hr⟩
      · unfold journal_Do
        rw [h1, r1]
        simp only [Option.bind_some, bne_self_eq_false, Bool.false_eq_true, if_false, b, if_true]
      · unfold ref58_Do
        rw [h2, r2]
        simp only [Option.bind_some, bne_self_eq_false, Bool.false_eq_true, if_false, b, if_true]
  · have hk : k ≠ 0 := fun q => g (h3.1 q)
    have b : (k != 0) = true := by simpa using hk
    refine ⟨(⟨[], 0⟩, k), ?_, ?_, by simp, fun h => absurd h hk⟩
    · unfold journal_Do
      rw [h1]
      simp only [Option.bind_some, b, if_true]
    · unfold ref58_Do
      rw [h2]
      simp only [Option.bind_some, b, if_true]
end Go.Proofs.YtpocodofhkaddaaGreatDoor.W
