/- The plain laws of the journal's logs: Load and Repaired. No program in sight. -/
import Derived.Test.YtpigfknmlmeihaaGreatDoorLawS
set_option linter.unusedVariables false
set_option linter.unusedSimpArgs false
set_option maxHeartbeats 2000000
namespace Go.Proofs.YtpigfknmlmeihaaGreatDoor.W
open Go Go.RowKit
def lastSep (line : List UInt8) : Int := Lib.lastIndex line [32, 59, 32]
def markOf (h : Int) (s : List UInt8) : Int := s.foldl markS h
theorem markOf_bd {h : Int} {s : List UInt8} (h0 : 0 ≤ h) (h1 : h < 65521) : 0 ≤ markOf h s ∧ markOf h s < 65521 := mark_fold_bd s h h0 h1
theorem lastSep_cases (line : List UInt8) : lastSep line = -1 ∨ ∃ p t : List UInt8, line = p ++ [32, 59, 32] ++ t ∧ lastSep line = (p.length : Int) := by
  unfold lastSep Lib.lastIndex
  by_cases h : ([32, 59, 32] : List UInt8).length ≤ line.length
  · rw [if_pos h]
    have h3 : 3 ≤ line.length := h
    rcases Lib.lastOcc_spec line [32, 59, 32] (line.length - ([32, 59, 32] : List UInt8).length + 1) with ⟨e, _⟩ | ⟨i, hi, e, ho, _⟩
    · exact .inl e
    · right
      have hi3 : i + 3 ≤ line.length := by simp at hi; omega
      rw [Lib.occAt_iff_take line [32, 59, 32] i hi3, beq_iff_eq] at ho
      refine ⟨line.take i, line.drop (i + 3), ?_, by rw [e, List.length_take]; omega⟩
      have h1 : line = line.take i ++ line.drop i := (List.take_append_drop i line).symm
      have h2 : line.drop i = (line.drop i).take 3 ++ line.drop (i + 3) := by
        rw [← List.drop_drop]
        exact (List.take_append_drop 3 (line.drop i)).symm
      have ho' : (line.drop i).take 3 = [32, 59, 32] := ho
      rw [ho'] at h2
      rw [List.append_assoc, ← h2]
      exact h1
  · exact .inl (if_neg h)
theorem front_loop (line : List UInt8) (hb : line.length ≤ 4611686018427387904) (k : Option (List UInt8 × Bool)) : ∀ (j fuel : Nat), j + 1 ≤ fuel → (j = 0 ∨ j + 2 ≤ line.length) →
    ref58_front_loop1 line k fuel ((j : Int) - 1) = if Lib.lastOcc line [32, 59, 32] j < 0 then k else some (line.take (Lib.lastOcc line [32, 59, 32] j).toNat, true)
  | 0, fuel + 1, _, _ => by
    rw [ref58_front_loop1]
    simp [Lib.lastOcc]
  | j + 1, fuel + 1, hf, hj => by
    have hj3 : j + 3 ≤ line.length := by omega
    have e1 : (((j + 1 : Nat) : Int) - 1) = (j : Int) := by omega
    have w1 : IntKind.wrap .i64 ((j : Int) + 3) = (j : Int) + 3 := wrap64 (by omega) (by omega)
    have w2 : IntKind.wrap .i64 ((j : Int) - 1) = (j : Int) - 1 := wrap64 (by omega) (by omega)
    have hc : cut line (j : Int) ((j : Int) + 3) = some ((line.drop j).take 3) := by
      unfold cut
      rw [if_pos ⟨by omega, by omega, by omega⟩]
      congr 2
      omega
    have hc2 : cut line 0 (j : Int) = some (line.take j) := by
      unfold cut
      rw [if_pos ⟨by omega, by omega, by omega⟩]
      simp
    have ho := Lib.occAt_iff_take line [32, 59, 32] j hj3
    have ho' : Lib.occAt line [32, 59, 32] j = ((line.drop j).take 3 == [32, 59, 32]) := ho
    rw [ref58_front_loop1, e1, if_pos (decide_eq_true (by omega)), w1, hc, Option.bind_some, w2, ← ho']
    cases h : Lib.occAt line [32, 59, 32] j
    · rw [if_neg (by decide), Lib.lastOcc_miss _ _ _ h]
      exact front_loop line hb k j fuel (by omega) (by omega)
    · rw [if_pos rfl, hc2, Lib.lastOcc_hit _ _ _ h, if_neg (by omega)]
      simp
theorem front_eq (line : List UInt8) (hb : line.length ≤ 4611686018427387904) : ref58_front line = some (if lastSep line < 0 then ([], false) else (line.take (lastSep line).toNat, true)) := by
  unfold ref58_front lastSep Lib.lastIndex
  simp only [joinK]
  have w1 : IntKind.wrap .i64 ((line.length : Int) - 3) = (line.length : Int) - 3 := wrap64 (by omega) (by omega)
  rw [w1]
  by_cases h : ([32, 59, 32] : List UInt8).length ≤ line.length
  · have h3 : 3 ≤ line.length := h
    have hl := front_loop line hb (some ([], false)) (line.length - 2) (line.length + 1) (by omega) (by omega)
    have e : (((line.length - 2 : Nat) : Int) - 1) = (line.length : Int) - 3 := by omega
    rw [e] at hl
    rw [if_pos h, hl]
    have e2 : line.length - ([32, 59, 32] : List UInt8).length + 1 = line.length - 2 := by simp; omega
    rw [e2]
    split <;> rfl
  · have h3 : ¬ 3 ≤ line.length := h
    rw [if_neg h, ref58_front_loop1]
    have : decide ((line.length : Int) - 3 ≥ 0) = false := decide_eq_false (by omega)
    rw [if_neg (by rw [this]; decide)]
    rfl
def decM (h : Int) : List UInt8 := Lib.decDigits h.toNat
theorem line_eq (h : Int) (s : List UInt8) (h0 : 0 ≤ h) (h1 : h < 65521) (hs : s.length ≤ 300000) : ref58_Line h s = some (s ++ [32, 59, 32] ++ decM (markOf h s) ++ [10], markOf h s) := by
  have hm := markOf_bd (s := s) h0 h1
  obtain ⟨n1, n2, n3⟩ := num_eq (a := markOf h s) (by omega) (by omega)
  unfold ref58_Line
  rw [(mark_eq h s (by omega) h0 h1).2, Option.bind_some, catO_small (by simp; omega), Option.bind_some]
  show ((ref12_Digits (markOf h s)).bind _) = _
  rw [n2, Option.bind_some, catO_small (by simp; omega), Option.bind_some, catO_small (by simp; omega), Option.bind_some]
  rfl
theorem end_found (T : List UInt8) (k : Option Int) (hT : T.length ≤ 1000000) (rest : List UInt8) : ∀ (line pre : List UInt8), T = pre ++ (line ++ 10 :: rest) → (10 : UInt8) ∉ line →
    ref58_end_loop1 T k ((line ++ 10 :: rest).length + 1) (pre.length : Int) = some ((pre.length : Int) + (line.length : Int))
  | [], pre, e, _ => by
    rw [List.nil_append] at e ⊢
    rw [ref58_end_loop1, e, lt_mid, if_pos rfl, byteAt_mid, Option.bind_some, if_pos (by decide)]
    simp
  | b :: line, pre, e, h => by
    have hb : ((b.toNat : Int) == 10) = false := by
      rw [beq_eq_false_iff_ne]
      intro q
      exact h (by rw [show (10 : UInt8) = b from UInt8.toNat_inj.1 (by have : (10 : UInt8).toNat = 10 := rfl; omega)]; simp)
    have hlen : T.length = pre.length + ((line ++ 10 :: rest).length + 1) := by rw [e]; simp
    rw [List.cons_append] at e ⊢
    rw [List.length_cons, ref58_end_loop1, e, lt_mid, if_pos rfl, byteAt_mid, Option.bind_some, if_neg (by rw [hb]; decide), wrap_mid (x := b) (r := line ++ 10 :: rest) (by rw [← e]; omega), ← e]
    rw [end_found T k hT rest line (pre ++ [b]) (by rw [e, mid_cons]) (fun q => h (by simp [q]))]
    simp only [List.length_append, List.length_cons, List.length_nil]
    congr 1
    omega
theorem end_none (T : List UInt8) (k : Option Int) (hT : T.length ≤ 1000000) : ∀ (r pre : List UInt8), T = pre ++ r → (10 : UInt8) ∉ r → ref58_end_loop1 T k (r.length + 1) (pre.length : Int) = k
  | [], pre, e, _ => by
    rw [ref58_end_loop1, e, ge_end]
    simp
  | b :: r, pre, e, h => by
    have hb : ((b.toNat : Int) == 10) = false := by
      rw [beq_eq_false_iff_ne]
      intro q
      exact h (by rw [show (10 : UInt8) = b from UInt8.toNat_inj.1 (by have : (10 : UInt8).toNat = 10 := rfl; omega)]; simp)
    rw [List.length_cons, ref58_end_loop1, e, lt_mid, if_pos rfl, byteAt_mid, Option.bind_some, if_neg (by rw [hb]; decide), wrap_mid (x := b) (r := r) (by rw [← e]; omega), ← e]
    exact end_none T k hT r (pre ++ [b]) (by rw [e, mid_cons]) (fun q => h (by simp [q]))
theorem end_eq (T pre r : List UInt8) (e : T = pre ++ r) : ref58_end T (pre.length : Int) = ref58_end_loop1 T (some (-1)) (r.length + 1) (pre.length : Int) := by
  unfold ref58_end joinK
  have : (Int.toNat ((T.length : Int) - (pre.length : Int)) + 1) = r.length + 1 := by rw [e]; simp; omega
  rw [this]
theorem cutAt_found {line rest : List UInt8} (h : (10 : UInt8) ∉ line) (hl : (line ++ 10 :: rest).length < 4294967281) : cutAt (line ++ 10 :: rest) [10] = some (line, rest, true) := by
  unfold cutAt Lib.cut
  rw [if_pos hl, index_cut 10 line rest h, if_pos (by omega)]
  simp
theorem cutAt_none {r : List UInt8} (h : (10 : UInt8) ∉ r) (hl : r.length < 4294967281) : cutAt r [10] = some (r, [], false) := by
  unfold cutAt Lib.cut
  rw [if_pos hl, index_no 10 r h, if_neg (by decide)]
theorem cut_take {s : List UInt8} {i : Nat} (h : i ≤ s.length) : cut s 0 (i : Int) = some (s.take i) := by
  unfold cut
  rw [if_pos ⟨by omega, by omega, by omega⟩]
  simp
theorem cut_drop {s : List UInt8} {i : Nat} (h : i ≤ s.length) : cut s (i : Int) (s.length : Int) = some (s.drop i) := by
  unfold cut
  rw [if_pos ⟨by omega, by omega, by omega⟩, List.take_of_length_le (by simp)]
  simp
theorem cut_mid {p q t : List UInt8} : cut (p ++ (q ++ t)) (p.length : Int) ((p.length : Int) + (q.length : Int)) = some q := by
  unfold cut
  rw [if_pos ⟨by omega, by omega, by simp; omega⟩]
  congr 1
  rw [show ((p.length : Int)).toNat = p.length by omega, show ((p.length : Int) + (q.length : Int)).toNat - p.length = q.length by omega]
  simp
/-- a round of Load -/
theorem load_loops (T : List UInt8) (hT : T.length ≤ 262144) : ∀ (f : Nat) (r pre : List UInt8) (m : Machine) (h : Int) (n f2 : Nat), r.length < f → r.length < f2 → T = pre ++ r → Good m → 0 ≤ h → h < 65521 → n ≤ 4096 →
    ∃ (m' : Machine) (h' n' at' e' : Int), journal_readAll_loop1 f r m.items m.cycles h n pre.length = some (⟨m', h', n', at'⟩, e') ∧
      ref58_Begun_loop1 T (fun i5 i6 l2 i7 => some (⟨l2, i7⟩, i5, i6, 0)) f2 h n pre.length m.items m.cycles = some (m', n', at', e') ∧ Good m' ∧ 0 ≤ at' ∧ at' ≤ T.length
  | f + 1, r, pre, m, h, n, f2 + 1, hf, hf2, e, g, h0, h1, hn => by
    have hlen : T.length = pre.length + r.length := by rw [e]; simp
    have hm : (⟨m.items, m.cycles⟩ : Machine) = m := rfl
    rw [journal_readAll_loop1, ref58_Begun_loop1]
    simp only [joinK, hm]
    by_cases hr : r = []
    · subst hr
      have c1 : decide ((pre.length : Int) < (T.length : Int)) = false := decide_eq_false (by simp at hlen; omega)
      refine ⟨m, h, n, pre.length, 0, by simp, ?_, g, by omega, by omega⟩
      rw [if_neg (by rw [c1]; decide)]
    · have hr1 : 1 ≤ r.length := by
        cases r with
        | nil => exact absurd rfl hr
        | cons b r => simp
      have c1 : decide ((pre.length : Int) < (T.length : Int)) = true := decide_eq_true (by omega)
      have c0 : (!(r == [])) = true := by simpa using hr
      rw [if_pos c0, if_pos c1]
      have stop : ∀ (E : Int), E ≠ 0 → ∃ (m' : Machine) (h' n' at' e' : Int), (if (E != 0) = true then some (⟨m, h, (n : Int), (pre.length : Int)⟩, E) else none : Option (JRead × Int)) = some (⟨m', h', n', at'⟩, e') ∧
          (some (m, (n : Int), (pre.length : Int), E) : Option (Machine × Int × Int × Int)) = some (m', n', at', e') ∧ Good m' ∧ 0 ≤ at' ∧ at' ≤ T.length := fun E hE =>
        ⟨m, h, n, pre.length, E, by rw [if_pos (bne_iff_ne.2 hE)], rfl, g, by omega, by omega⟩
      by_cases hn4 : n = 4096
      · subst hn4
        have c4 : (((4096 : Nat) : Int) == 4096) = true := rfl
        rw [if_pos c4]
        have hcut : ∃ q, cutAt r [10] = some q := by
          unfold cutAt
          rw [if_pos (by omega)]
          exact ⟨_, rfl⟩
        obtain ⟨q, hq⟩ := hcut
        rw [hq, Option.bind_some, if_pos c4]
        exact ⟨m, h, _, pre.length, 5, by rw [if_pos (by decide)], rfl, g, by omega, by omega⟩
      · have c4 : ((n : Int) == 4096) = false := by rw [beq_eq_false_iff_ne]; omega
        simp only [c4, Bool.false_eq_true, if_false]
        rw [end_eq T pre r e]
        by_cases hnl : (10 : UInt8) ∈ r
        · obtain ⟨line, rest, hrl, hnot⟩ := List.eq_append_cons_of_mem hnl
          subst hrl
          have hll : line.length ≤ 262144 := by simp at hlen; omega
          rw [cutAt_found hnot (by omega), Option.bind_some, end_found T _ (by omega) rest line pre e hnot, Option.bind_some]
          have c5 : decide (((pre.length : Int) + (line.length : Int)) < 0) = false := decide_eq_false (by omega)
          have c6 : cut T (pre.length : Int) ((pre.length : Int) + (line.length : Int)) = some line := by rw [e]; exact cut_mid
          have wS : IntKind.wrap .i64 (((pre.length : Int) + (line.length : Int)) + 1) = (pre.length : Int) + ((line ++ [10]).length : Int) := by
            rw [wrap64 (by omega) (by omega)]; simp; omega
          have c7 : cut T (pre.length : Int) ((pre.length : Int) + ((line ++ [10]).length : Int)) = some (line ++ [10]) := by
            rw [e, show line ++ 10 :: rest = (line ++ [10]) ++ rest by simp]; exact cut_mid
          have hlast : lastIdx line [32, 59, 32] = some (lastSep line) := by
            unfold lastIdx
            rw [if_pos (by omega)]
            rfl
          simp only [c5, Bool.false_eq_true, if_false, c6, Option.bind_some, front_eq line (by omega), hlast, Bool.not_true, wS, c7]
          rcases lastSep_cases line with hls | ⟨p, t, hpt, hls⟩
          · have d1 : decide (lastSep line < 0) = true := decide_eq_true (by omega)
            rw [d1, if_pos rfl, Option.bind_some, if_pos rfl, if_pos (show lastSep line < 0 by omega)]
            rw [line_eq h [] h0 h1 (by simp), Option.bind_some]
            exact ⟨m, h, n, pre.length, 19, by rw [if_pos (by decide)], by simp, g, by omega, by omega⟩
          · have hpl : p.length + 3 + t.length = line.length := by rw [hpt]; simp; omega
            have d1 : decide (lastSep line < 0) = false := decide_eq_false (by omega)
            have d2 : cut line 0 (lastSep line) = some p := by
              rw [hls, cut_take (by omega), hpt, List.append_assoc]; simp
            have d3 : cut line (IntKind.wrap .i64 (lastSep line + 3)) (line.length : Int) = some t := by
              rw [hls, wrap64 (by omega) (by omega), show (p.length : Int) + 3 = ((p.length + 3 : Nat) : Int) by omega, cut_drop (by omega), hpt]
              congr 1
              rw [show p.length + 3 = (p ++ ([32, 59, 32] : List UInt8)).length by simp]
              simp
            have d4 : line.take (lastSep line).toNat = p := by rw [hls, hpt, List.append_assoc]; simp
            have hmk := (mark_eq h p (by omega) h0 h1).1
            have hmk' : journal_mark h p = some (markOf h p) := hmk
            have hmb := markOf_bd (s := p) h0 h1
            have hit : itoa (markOf h p) = some (decM (markOf h p)) := (num_eq (a := markOf h p) (by omega) (by omega)).1
            rw [d1, if_neg (by decide), if_neg (show ¬ lastSep line < 0 by omega), d4]
            simp only [d2, d3, Option.bind_some, hmk', hit, line_eq h p h0 h1 (by omega), Bool.not_true, Bool.false_eq_true, if_false]
            have hcmp : ((p ++ [32, 59, 32] ++ decM (markOf h p) ++ [10]) == (line ++ [10])) = (t == decM (markOf h p)) := by
              rw [Bool.eq_iff_iff, beq_iff_eq, beq_iff_eq, hpt]
              simp [eq_comm]
            rw [hcmp]
            by_cases ht : t = decM (markOf h p)
            · have ht' : (t == decM (markOf h p)) = true := beq_iff_eq.2 ht
              simp only [ht', Bool.not_true, Bool.false_eq_true, if_false]
              obtain ⟨q, q1, q2, q3, q4⟩ := read_eq p
              rw [q1, q2, Option.bind_some, Option.bind_some]
              by_cases hq : q.2 = 0
              · obtain ⟨gx, tx⟩ := q3 hq
                obtain ⟨A, o, B, c⟩ := cut_of q.1.name m.items g.srt
                have hdone := (done_eq g gx c).1
                have hdo := (do_good g gx c).2
                have hgood := res_good (x := q.1) g gx c
                generalize res q.1 m.cycles A o B = d at hdone hdo hgood
                rw [hq, hdone, hdo]
                simp only [Option.bind_some, bne_self_eq_false, Bool.false_eq_true, if_false]
                by_cases hd : d.2 = 0
                · have gd := hgood hd
                  have wn : IntKind.wrap .i64 ((n : Int) + 1) = ((n + 1 : Nat) : Int) := by rw [wrap64 (by omega) (by omega)]; omega
                  have ws2 : IntKind.wrap .i64 ((IntKind.wrap .i64 ((pre.length : Int) + (line.length : Int))) + 1) = (((pre ++ (line ++ [10])).length : Nat) : Int) := by
                    rw [wrap64 (x := (pre.length : Int) + (line.length : Int)) (by omega) (by omega), wrap64 (by omega) (by omega)]; simp; omega
                  have ws3 : (pre.length : Int) + ((line ++ [10]).length : Int) = (((pre ++ (line ++ [10])).length : Nat) : Int) := by simp
                  simp only [hd, bne_self_eq_false, Bool.false_eq_true, if_false, wn, ws2, ws3]
                  have hrl : (line ++ 10 :: rest).length = line.length + 1 + rest.length := by simp; omega
                  exact load_loops T hT f rest (pre ++ (line ++ [10])) d.1 (markOf h p) (n + 1) f2 (by omega) (by omega) (by rw [e]; simp) gd hmb.1 hmb.2 (by omega)
                · have bd : (d.2 != 0) = true := bne_iff_ne.2 hd
                  simp only [bd, if_true]
                  exact ⟨m, h, n, pre.length, d.2, rfl, rfl, g, by omega, by omega⟩
              · have bq : (q.2 != 0) = true := bne_iff_ne.2 hq
                simp only [bq, if_true]
                exact ⟨m, h, n, pre.length, 4, by rw [if_pos (by decide)], rfl, g, by omega, by omega⟩
            · have ht' : (t == decM (markOf h p)) = false := beq_eq_false_iff_ne.2 ht
              simp only [ht', Bool.not_false, if_true]
              exact ⟨m, h, n, pre.length, 19, by rw [if_pos (by decide)], rfl, g, by omega, by omega⟩
        · rw [cutAt_none hnl (by omega), end_none T _ (by omega) r pre e hnl, Option.bind_some, Option.bind_some]
          have c5 : decide ((-1 : Int) < 0) = true := rfl
          rw [c5, if_pos rfl]
          exact ⟨m, h, n, pre.length, 18, by simp, rfl, g, by omega, by omega⟩
theorem load_eq (T : List UInt8) (hT : T.length ≤ 262144) : ∃ (m : Machine) (h n a e : Int), journal_readAll T = some (⟨m, h, n, a⟩, e) ∧ ref58_Begun T = some (m, n, a, e) ∧ Good m ∧ 0 ≤ a ∧ a ≤ T.length := by
  have hl := load_loops T hT (T.length + 1) T [] ⟨[], 0⟩ 0 0 (T.length + 1) (by omega) (by omega) rfl good0 (by omega) (by omega) (by omega)
  obtain ⟨m, h, n, a, e, h1, h2, h3⟩ := hl
  refine ⟨m, h, n, a, e, ?_, ?_, h3⟩
  · unfold journal_readAll
    exact h1
  · unfold ref58_Begun joinK
    rw [fuel0]
    exact h2
theorem cut_pre {s : List UInt8} {a : Int} (h0 : 0 ≤ a) (h1 : a ≤ s.length) : cut s 0 a = some (s.take a.toNat) := by
  have : a = ((a.toNat : Nat) : Int) := by omega
  rw [this, cut_take (by omega), ← this]
theorem law_Loads (s : List UInt8) : law58_JournalLoads s = some true := by
  unfold law58_JournalLoads ref58_Short
  rw [Option.bind_some]
  by_cases hc : ((decide ((s.length : Int) ≤ 1500)) || ((decide ((s.length : Int) > 262144)) && (decide ((s.length : Int) < 524288)))) = true
  · rw [hc, if_neg (by decide)]
    have hlt : s.length < 524288 := by
      rw [Bool.or_eq_true, Bool.and_eq_true, decide_eq_true_eq, decide_eq_true_eq, decide_eq_true_eq] at hc
      omega
    by_cases hbig : s.length > 262144
    · -- too long
      have db : decide ((s.length : Int) > 262144) = true := decide_eq_true (by omega)
      have l1 : journal_Load s = some (⟨[], 0⟩, 0, 17) := by unfold journal_Load; rw [if_pos db]
      have l2 : ref58_Load s = some (⟨[], 0⟩, 0, 17) := by unfold ref58_Load; rw [if_pos db]
      have ht : (s.take 262144).length = 262144 := by rw [List.length_take]; omega
      obtain ⟨m, h, n, a, e, r1, r2, _, r3, r4⟩ := load_eq (s.take 262144) (by omega)
      have c1 : cut s 0 262144 = some (s.take 262144) := cut_take (i := 262144) (by omega)
      have p1 : journal_Repaired s = some (s.take a.toNat) := by
        unfold journal_Repaired
        rw [if_pos (show (262144 : Int) < (s.length : Int) by omega), c1, Option.bind_some, r1, Option.bind_some, cut_pre r3 (by omega), Option.bind_some]
      have p2 : ref58_Repaired s = some (s.take a.toNat) := by
        unfold ref58_Repaired
        simp only [joinK]
        rw [db, if_pos rfl, c1, Option.bind_some, r2, Option.bind_some, cut_pre r3 (by omega), Option.bind_some, List.take_take]
        congr 2
        omega
      rw [l1, l2, p1, p2, awake_true]
      simp only [Option.bind_some, if_true, own_eq ⟨[], 0⟩ (by simp), same_eq ⟨[], 0⟩ (by simp), BEq.rfl]
    · have db : decide ((s.length : Int) > 262144) = false := decide_eq_false (by omega)
      obtain ⟨m, h, n, a, e, r1, r2, g, r3, r4⟩ := load_eq s (by omega)
      have hb := g.len
      have q : ∃ mm : Machine, (mm.items.length ≤ 256) ∧ journal_Load s = some (mm, n, e) ∧ ref58_Load s = some (mm, n, e) := by
        unfold journal_Load ref58_Load
        rw [db, if_neg (by decide), if_neg (by decide), r1, r2, Option.bind_some, Option.bind_some]
        by_cases he : e = 0
        · subst he
          exact ⟨m, hb, rfl, rfl⟩
        · have be : (e != 0) = true := bne_iff_ne.2 he
          simp only [be, if_true]
          exact ⟨⟨[], 0⟩, by simp, rfl, rfl⟩
      obtain ⟨mm, hmm, l1, l2⟩ := q
      have hmin : (if (262144 : Int) < (s.length : Int) then 262144 else (s.length : Int)) = (s.length : Int) := if_neg (by omega)
      have p1 : journal_Repaired s = some (s.take a.toNat) := by
        unfold journal_Repaired
        rw [hmin, cut_take (Nat.le_refl _), List.take_length, Option.bind_some, r1, Option.bind_some, cut_pre r3 (by omega), Option.bind_some]
      have p2 : ref58_Repaired s = some (s.take a.toNat) := by
        unfold ref58_Repaired
        simp only [joinK]
        rw [db, if_neg (by decide), r2, Option.bind_some, cut_pre r3 (by omega), Option.bind_some]
      rw [l1, l2, p1, p2, awake_true]
      simp only [Option.bind_some, if_true, own_eq mm (by omega), same_eq mm (by omega), BEq.rfl]
  · rw [Bool.not_eq_true] at hc
    rw [hc, if_pos (show (!false) = true from rfl), awake_true]
    rfl
end Go.Proofs.YtpigfknmlmeihaaGreatDoor.W
