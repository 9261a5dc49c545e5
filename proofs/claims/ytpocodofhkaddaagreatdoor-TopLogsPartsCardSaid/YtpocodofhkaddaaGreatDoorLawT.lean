/- The plain laws of logs: TopLogsGrow and TopLogsParts. No program in sight. -/
import Derived.Test.YtpocodofhkaddaaGreatDoorLawW
set_option linter.unusedVariables false
set_option linter.unusedSimpArgs false
set_option maxHeartbeats 2000000
namespace Go.Proofs.YtpocodofhkaddaaGreatDoor.W
open Go Go.RowKit
theorem runLog_true : top_runLog = some true := by kernel_rfl
theorem runE_loop (l : List Entry) (k : List Entry → Option (List Entry × Bool)) (hb : l.length ≤ 100000) : ∀ (r pre : List Entry), l = pre ++ r → top_runEntries_loop1 l k (r.length + 1) (pre.length : Int) pre = k l
  | [], pre, e => by
    unfold top_runEntries_loop1
    rw [e, ge_end]
    simp
  | x :: r, pre, e => by
    have hlen : l.length = pre.length + (r.length + 1) := by rw [e]; simp
    have hat : at? l (pre.length : Int) = some x := by rw [e]; exact at?_mid
    have ih := runE_loop l k hb r (pre ++ [x]) (by rw [e, mid_cons])
    have e2 : (((pre ++ [x]).length : Nat) : Int) = (pre.length : Int) + 1 := by simp
    rw [e2] at ih
    unfold top_runEntries_loop1
    rw [if_pos (by rw [decide_eq_true_eq]; omega), hat]
    simp only [Option.bind_some]
    rw [appO_ok (by simp; omega) (by decide), Option.bind_some, wrap64 (x := (pre.length : Int) + 1) (by omega) (by omega)]
    exact ih
theorem runE_eq (l : List Entry) : ∃ b, top_runEntries l = some ((if l.length > 20 then [] else l), b) ∧ (b = true → SmallE l ∧ l.length ≤ 20) := by
  unfold top_runEntries
  by_cases h : l.length > 20
  · rw [if_pos (by rw [decide_eq_true_eq]; omega), if_pos h]
    exact ⟨false, rfl, by simp⟩
  · rw [if_neg (by rw [decide_eq_true_eq]; omega), if_neg h]
    unfold joinK
    dsimp only
    rw [fuel0]
    obtain ⟨b, hf, hfb⟩ := fewE_eq l (by omega)
    refine ⟨b, ?_, fun q => ⟨(hfb q).2.2, by omega⟩⟩
    refine Eq.trans (runE_loop l _ (by omega) l [] rfl) ?_
    rw [hf]
    rfl
theorem eqI_loop (l : List Item) (k : Option Bool) (hb : l.length ≤ 4611686018427387904) : ∀ (r pre : List Item), l = pre ++ r → slices_Equal_journal_Itemjournal_Item_loop1 l l k (r.length + 1) (pre.length : Int) = k
  | [], pre, e => by
    unfold slices_Equal_journal_Itemjournal_Item_loop1
    rw [e, ge_end]
    rfl
  | x :: r, pre, e => by
    unfold slices_Equal_journal_Itemjournal_Item_loop1
    rw [e, lt_mid, if_pos rfl, at?_mid, Option.bind_some, Option.bind_some, wrap_mid (x := x) (r := r) (by rw [← e]; exact hb)]
    rw [if_neg (by simp), ← e]
    exact eqI_loop l k hb r (pre ++ [x]) (by rw [e, mid_cons])
theorem eqI_eq (l : List Item) (hb : l.length ≤ 4611686018427387904) : slices_Equal_journal_Itemjournal_Item l l = some true := by
  unfold slices_Equal_journal_Itemjournal_Item joinK
  rw [fuel0]
  have := eqI_loop l (some true) hb l [] rfl
  simp only [List.length_nil, Int.natCast_zero] at this
  simp only [bne_self_eq_false, Bool.false_eq_true, if_false, this]
theorem same_m (m : Machine) (hb : m.items.length ≤ 4611686018427387904) : top_runMachines m m = some true := by
  unfold top_runMachines
  rw [if_pos (by simp), eqI_eq m.items hb]
  rfl
theorem res_fail {x : Entry} {c : Int} {A B : List Item} {o : Option Item} (h : (res x c A o B).2 ≠ 0) : (res x c A o B).1 = ⟨[], 0⟩ := by
  unfold res at h ⊢
  cases o with
  | none =>
    dsimp only at h ⊢
    split at h <;> rename_i q
    · rw [if_pos q]
      split at h <;> rename_i q2
      · rw [if_pos q2]
      · exact absurd rfl h
    · rw [if_neg q]
  | some y =>
    dsimp only at h ⊢
    split at h <;> rename_i q
    · rw [if_pos q]
    · rw [if_neg q]
      unfold fin at h ⊢
      split at h <;> simp_all
theorem do_fail {m : Machine} {x : Entry} {r : Machine × Int} (g : Good m) (hn : x.name.length ≤ 60) (h : journal_Do m x = some r) (h0 : r.2 ≠ 0) : r.1 = ⟨[], 0⟩ := by
  by_cases e : GoodE x
  · obtain ⟨A, o, B, c⟩ := cut_of x.name m.items g.srt
    have hd := (do_good g e c).1
    rw [h] at hd
    cases hd
    exact res_fail h0
  · obtain ⟨k, h1, h2, h3⟩ := check_eq m (good_short g)
    have hk := h3.2 g
    subst hk
    have hr : rcode x ≠ 0 := fun q => e (rcode_zero.1 q)
    unfold journal_Do at h
    rw [h1, Option.bind_some, if_neg (by decide), (right_eq x hn).1, Option.bind_some, if_pos (by simpa using hr)] at h
    cases h
    rfl
theorem runS_app : ∀ (l1 l2 : List Entry) (i : Nat) (m : Machine), SmallE l1 → Good m → (runS i m l1).2.2 = 0 → runS i m (l1 ++ l2) = runS (i + l1.length) (runS i m l1).1 l2 ∧ Good (runS i m l1).1
  | [], l2, i, m, _, g, _ => ⟨rfl, g⟩
  | x :: l1, l2, i, m, hs, g, h => by
    obtain ⟨m', k1, k2, e, g', k3⟩ := runS_cons (r := l1) g (hs x (by simp)) h
    have hc : runS i m (x :: (l1 ++ l2)) = runS (i + 1) m' (l1 ++ l2) := by
      show (match journal_Do m x with
        | some (m', e) => if e = 0 then runS (i + 1) m' (l1 ++ l2) else (⟨[], 0⟩, (i : Int), e)
        | none => (⟨[], 0⟩, 0, 0)) = _
      rw [k1]
      simp
    rw [k3] at h
    obtain ⟨h1, h2⟩ := runS_app l1 l2 (i + 1) m' (fun z hz => hs z (by simp [hz])) g' h
    refine ⟨?_, by rw [k3]; exact h2⟩
    rw [List.cons_append, hc, h1, k3, List.length_cons, show i + 1 + l1.length = i + (l1.length + 1) by omega]
theorem runS_one (i : Nat) (m : Machine) (x : Entry) (r : Machine × Int) (h : journal_Do m x = some r) : runS i m [x] = if r.2 = 0 then (r.1, 0, 0) else (⟨[], 0⟩, (i : Int), r.2) := by
  obtain ⟨rm, re⟩ := r
  show (match journal_Do m x with
    | some (m', e) => if e = 0 then runS (i + 1) m' [] else (⟨[], 0⟩, (i : Int), e)
    | none => (⟨[], 0⟩, 0, 0)) = _
  rw [h]
  rfl
theorem law_Grow (l : List Entry) (x : Entry) : top_TopLogsGrow l x = some true := by
  unfold top_TopLogsGrow
  obtain ⟨b, h1, h2⟩ := runE_eq l
  rw [h1, Option.bind_some, runLog_true]
  cases b with
  | false => simp
  | true =>
    obtain ⟨hs, hb⟩ := h2 rfl
    by_cases hx : x.name.length > 60
    · rw [if_pos (by simp; omega)]; rfl
    · rw [if_neg (by simp; omega)]
      dsimp only
      rw [if_neg (show ¬ l.length > 20 by omega), (run_eq2 l hs (by omega)).2, Option.bind_some]
      by_cases hr : (runS 0 ⟨[], 0⟩ l).2.2 = 0
      · have hg := runS_good l 0 ⟨[], 0⟩ hs good0
        obtain ⟨g, _, hge⟩ := hg.2 hr
        have hxs : SmallE (l ++ [x]) := fun y hy => by
          rcases List.mem_append.1 hy with hy | hy
          · exact hs y hy
          · rw [List.mem_singleton.1 hy]; omega
        obtain ⟨c, c1, _, c3⟩ := check_eq (runS 0 ⟨[], 0⟩ l).1 (good_short g)
        have c0 := c3.2 g
        subst c0
        obtain ⟨d, d1, _, d3, d4⟩ := do_eq (runS 0 ⟨[], 0⟩ l).1 x (good_short g) (by omega)
        have ha := (runS_app l [x] 0 ⟨[], 0⟩ hs good0 hr).1
        rw [Nat.zero_add, runS_one l.length _ x d d1] at ha
        have hf : (if d.2 = 0 then (d.1, 0, 0) else ((⟨[], 0⟩ : Machine), ((l.length : Nat) : Int), d.2)) = (d.1, (if d.2 = 0 then 0 else ((l.length : Nat) : Int)), d.2) := by
          by_cases h0 : d.2 = 0
          · rw [if_pos h0, if_pos h0, h0]
          · rw [if_neg h0, if_neg h0, do_fail g (by omega) d1 h0]
        rw [hf] at ha
        rw [if_neg (by simpa using hr), (run_eq2 l hs (by omega)).1, Option.bind_some, hr, if_neg (by decide), c1, Option.bind_some, d1]
        simp only [Option.bind_some, bne_self_eq_false, Bool.false_eq_true, if_false]
        have a1 : appO 40 ([] : List Entry) l = some ([] ++ l) := appO_ok (by simp; omega) (by decide)
        have a2 : appO 40 l [x] = some (l ++ [x]) := appO_ok (by simp; omega) (by decide)
        rw [a1, a2]
        simp only [Option.bind_some]
        rw [(run_eq2 (l ++ [x]) hxs (by simp; omega)).1]
        simp only [Option.bind_some, ha]
        unfold joinK
        dsimp only
        rw [if_neg (by simp), same_m d.1 (by omega)]
        simp only [Option.bind_some, Bool.not_true, Bool.false_eq_true, if_false]
        by_cases h0 : d.2 = 0
        · obtain ⟨_, _, g2⟩ := d4 h0
          obtain ⟨c', c1', _, c3'⟩ := check_eq d.1 (good_short g2)
          have c0' := c3'.2 g2
          subst c0'
          rw [if_neg (by simpa using h0), c1']
          rfl
        · rw [if_pos (by simpa using h0), if_neg h0, if_pos (by simp)]
          rfl
      · rw [if_pos (by simpa using hr)]; rfl
theorem parts_loop (l2 : List Entry) (k : List Item → Int → Option Bool) (hl : l2.length ≤ 100000) : ∀ (r pre : List Entry) (i : Nat) (m : Machine), l2 = pre ++ r → SmallE r → Good m → (runS i m r).2.2 = 0 →
    top_TopLogsParts_loop1 k l2 (r.length + 1) (pre.length : Int) m.items m.cycles = k (runS i m r).1.items (runS i m r).1.cycles
  | [], pre, i, m, e, _, _, _ => by
    unfold top_TopLogsParts_loop1
    rw [e, ge_end]
    rfl
  | x :: r, pre, i, m, e, hs, g, h => by
    obtain ⟨m', k1, k2, _, g', k3⟩ := runS_cons (r := r) g (hs x (by simp)) h
    have hlen : l2.length = pre.length + (r.length + 1) := by rw [e]; simp
    have hat : at? l2 (pre.length : Int) = some x := by rw [e]; exact at?_mid
    have hm : (⟨m.items, m.cycles⟩ : Machine) = m := rfl
    rw [k3] at h ⊢
    have ih := parts_loop l2 k hl r (pre ++ [x]) (i + 1) m' (by rw [e, mid_cons]) (fun z hz => hs z (by simp [hz])) g' h
    have e2 : (((pre ++ [x]).length : Nat) : Int) = (pre.length : Int) + 1 := by simp
    rw [e2] at ih
    unfold top_TopLogsParts_loop1
    rw [if_pos (by rw [decide_eq_true_eq]; omega), hat, hm]
    simp only [Option.bind_some]
    rw [k1, Option.bind_some, wrap64 (x := (pre.length : Int) + 1) (by omega) (by omega)]
    exact ih
theorem load_log (l : List Entry) (hs : SmallE l) (hb : l.length ≤ 20) (hr : (runS 0 ⟨[], 0⟩ l).2.2 = 0) : journal_Load (linesS 0 l) = some ((runS 0 ⟨[], 0⟩ l).1, (l.length : Int), 0) := by
  have hg := goodE_run l 0 _ hs good0 hr
  have hl := lines_len l (h := 0) hg (by omega) (by omega)
  have h := (readAll_lines l [] hs hb hr (by simp; omega) (by simp)).1
  rw [List.append_nil, if_pos rfl] at h
  rw [load_of (by omega) h]
  rfl
theorem law_Parts (l : List Entry) (at_ : Int) (a0 : 0 ≤ at_) (a1 : at_ ≤ 255) : top_TopLogsParts l at_ = some true := by
  unfold top_TopLogsParts
  obtain ⟨b, h1, h2⟩ := runE_eq l
  rw [h1, Option.bind_some, runLog_true]
  cases b with
  | false => simp
  | true =>
    obtain ⟨hs, hb⟩ := h2 rfl
    rw [if_neg (by simp)]
    dsimp only
    rw [if_neg (show ¬ l.length > 20 by omega), (run_eq2 l hs (by omega)).2, Option.bind_some]
    by_cases hr : (runS 0 ⟨[], 0⟩ l).2.2 = 0
    · rw [if_neg (by simpa using hr), wrap64 (x := at_) (by omega) (by omega), wrap64 (x := (l.length : Int) + 1) (by omega) (by omega)]
      have t0 := Int.tmod_nonneg ((l.length : Int) + 1) a0
      have t1 := Int.tmod_lt_of_pos at_ (show (0 : Int) < (l.length : Int) + 1 by omega)
      obtain ⟨k, hk⟩ : ∃ k : Nat, Int.tmod at_ ((l.length : Int) + 1) = (k : Int) := ⟨(Int.tmod at_ ((l.length : Int) + 1)).toNat, by omega⟩
      rw [hk] at t1 ⊢
      have hkl : k ≤ l.length := by omega
      have p1 : part? l 0 (k : Int) = some (l.take k) := by
        unfold part?
        rw [if_pos (by omega)]
        simp
      have p2 : part? l (k : Int) (l.length : Int) = some (l.drop k) := by
        unfold part?
        rw [if_pos (by omega)]
        simp [List.take_of_length_le]
      have hap : l.take k ++ l.drop k = l := List.take_append_drop k l
      have hs1 : SmallE (l.take k) := fun y hy => hs y (List.mem_of_mem_take hy)
      have hs2 : SmallE (l.drop k) := fun y hy => hs y (List.mem_of_mem_drop hy)
      have hr1 : (runS 0 ⟨[], 0⟩ (l.take k)).2.2 = 0 := run_app (l.take k) (l.drop k) 0 ⟨[], 0⟩ (by rw [hap]; exact hs) good0 (by rw [hap]; exact hr)
      have hb1 : (l.take k).length = k := by simp; omega
      obtain ⟨ha, g1⟩ := runS_app (l.take k) (l.drop k) 0 ⟨[], 0⟩ hs1 good0 hr1
      rw [hap, Nat.zero_add] at ha
      have hr2 := hr
      rw [ha] at hr2
      have hpre : strings_HasPrefix (linesS 0 l) (linesS 0 (l.take k)) = some true := by
        have e := lines_app (l.take k) (l.drop k) 0
        rw [hap] at e
        unfold strings_HasPrefix internal_stringslite_HasPrefix
        have hle : (linesS 0 (l.take k)).length ≤ (linesS 0 l).length := by rw [e]; simp
        rw [if_pos (by rw [decide_eq_true_eq]; omega), cut_take hle, Option.bind_some, e, List.take_left]
        simp
      rw [show guardO (((l.length : Int) + 1) != 0) = some () by unfold guardO; rw [if_pos (by simp; omega)], Option.bind_some, log_text l hs hb hr, Option.bind_some, p1, Option.bind_some, log_text (l.take k) hs1 (by omega) hr1, Option.bind_some, load_log (l.take k) hs1 (by omega) hr1, Option.bind_some, load_log l hs hb hr, Option.bind_some]
      dsimp only
      have w0 : IntKind.wrap .i64 (IntKind.wrap .i64 (IntKind.wrap .i64 ((0 : Int) + 0) + 0) + 0) = 0 := by kernel_rfl
      rw [hb1, w0, if_neg (by simp), hpre, Option.bind_some, Option.bind_some, if_neg (by decide), p2]
      unfold joinK
      simp only [Option.bind_some]
      rw [fuel0]
      refine Eq.trans (parts_loop (l.drop k) _ (by simp; omega) (l.drop k) [] ((l.take k).length) (runS 0 ⟨[], 0⟩ (l.take k)).1 rfl hs2 g1 hr2) ?_
      rw [← ha]
      have hsm := same_m (runS 0 ⟨[], 0⟩ l).1 (by have := (runS_good l 0 ⟨[], 0⟩ hs good0).1; omega)
      rw [hsm]
      rfl
    · rw [if_pos (by simpa using hr)]; rfl
end Go.Proofs.YtpocodofhkaddaaGreatDoor.W
