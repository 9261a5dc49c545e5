/- The plain law of TopLogsWear. No program in sight. -/
import Derived.Test.YtcgmhlakihjbkaaGreatDoorLawW
import Derived.Test.YtcgmhlakihjbkaaGreatDoorLawI
set_option linter.unusedVariables false
set_option linter.unusedSimpArgs false
set_option maxHeartbeats 2000000
namespace Go.Proofs.YtcgmhlakihjbkaaGreatDoor.W
open Go Go.RowKit
theorem runLog_true : top_runLog = some true := by kernel_rfl
theorem mvsF_ne (a : Int) : ∀ (r : List Step) (i : Nat), (flat r).any (·.actuator == a) = true → mvsF a i r ≠ []
  | [], i, h => by simp [flat] at h
  | x :: r, i, h => by
    rw [mvsF]
    split
    · simp
    · rename_i q
      rw [flat_cons, List.any_append, Bool.or_eq_true] at h
      exact mvsF_ne a r (i + 1) (h.resolve_left q)
def newE (L : Int) : Entry := ⟨0, [65], L, 0⟩
def itemA (L : Int) : Item := ⟨[65], L, 0, 0, false, 0, 0⟩
theorem newE_good {L : Int} (h1 : 1 ≤ L) (h2 : L ≤ 65536) : J.GoodE (newE L) :=
  ⟨by show (0 : Int) ≤ 0; decide, by show (0 : Int) ≤ 5; decide, by show J.word [65] = 0; decide, fun _ => ⟨h1, by show L ≤ 1048576; omega⟩, fun h => absurd (Or.inl rfl) h, fun h => absurd h (by show ¬ (0 : Int) = 1; decide), fun _ => rfl⟩
theorem cut0 : J.Cut [] [65] [] none [] := ⟨rfl, by simp, by simp, by simp⟩
theorem res0 (L : Int) : J.res (newE L) 0 [] none [] = (⟨[itemA L], 0⟩, 0) := by rfl
theorem do0 {L : Int} (h1 : 1 ≤ L) (h2 : L ≤ 65536) : journal_Do ⟨[], 0⟩ (newE L) = some (⟨[itemA L], 0⟩, 0) := by
  have h := (J.do_good (m := ⟨[], 0⟩) (x := newE L) J.good0 (newE_good h1 h2) cut0).1
  rw [h]
  exact congrArg some (res0 L)
theorem good1 {L : Int} (h1 : 1 ≤ L) (h2 : L ≤ 65536) : J.Good ⟨[itemA L], 0⟩ := by
  have h := J.res_good (m := ⟨[], 0⟩) (x := newE L) J.good0 (newE_good h1 h2) cut0 (by rw [show (⟨[], 0⟩ : Machine).cycles = 0 from rfl, res0])
  rw [show (⟨[], 0⟩ : Machine).cycles = 0 from rfl, res0] at h
  exact h
theorem run1 {L : Int} (h1 : 1 ≤ L) (h2 : L ≤ 65536) : journal_Run [newE L] = some (⟨[itemA L], 0⟩, 0, 0) := by
  have h := (J.run_eq2 [newE L] (fun x hx => by rw [List.mem_singleton.1 hx]; show (1 : Nat) ≤ 60; decide) (by show 1 ≤ 4096; decide)).1
  rw [h, J.runS, do0 h1 h2]
  rfl
theorem cut1 {L : Int} : J.Cut [itemA L] [65] [] (some (itemA L)) [] := ⟨rfl, by simp, fun y hy => by cases hy; rfl, by simp⟩
theorem left1 {L u c : Int} {q : Item} {m : Machine} (g : J.Good m) (hm : m.items = [q]) (hq : q.name = [65]) {s : Int} (s1 : 1 ≤ s) (s2 : s ≤ 1048576) : journal_Left m [65] s = some (J.leftN q s, 0) := by
  have h := (J.left_good (m := m) (name := [65]) (A := []) (B := []) (o := some q) g ⟨by rw [hm]; rfl, by simp, fun y hy => by cases hy; exact hq, by simp⟩ s).1
  rw [h]
  unfold J.leftS
  simp only
  rw [if_pos ⟨s1, s2⟩]
theorem wear1 {L s c : Int} (h1 : 1 ≤ L) (h2 : L ≤ 65536) (s1 : 1 ≤ s) (s2 : s ≤ 64) (c1 : 1 ≤ c) (hc : c = J.leftN (itemA L) s ∨ c + 1 = J.leftN (itemA L) s) :
    ∃ q : Item, journal_Do ⟨[itemA L], 0⟩ ⟨1, [65], c, s⟩ = some (⟨[q], c⟩, 0) ∧ J.Good ⟨[q], c⟩ ∧ q.name = [65] ∧ q.life = L ∧ q.used = c * s ∧ q.faulty = false := by
  have hN : J.leftN (itemA L) s = (L + s - 1) / s := by
    unfold J.leftN itemA
    dsimp only
    rw [if_neg (by omega), Int.tdiv_eq_ediv_of_nonneg (by omega), show L - 0 + s - 1 = L + s - 1 by omega]
  have hle : (L + s - 1) / s * s ≤ L + s - 1 := Int.ediv_mul_le _ (by omega)
  have hcs : c * s ≤ (L + s - 1) / s * s := Int.mul_le_mul_of_nonneg_right (by rw [← hN]; omega) (by omega)
  have hc0 : c ≤ c * s := by
    have := Int.mul_le_mul_of_nonneg_left s1 (by omega : 0 ≤ c)
    omega
  have e : J.GoodE ⟨1, [65], c, s⟩ := ⟨by show (0 : Int) ≤ 1; decide, by show (1 : Int) ≤ 5; decide, by show J.word [65] = 0; decide, fun _ => ⟨c1, by show c ≤ 1048576; omega⟩, fun h => absurd (Or.inr (Or.inl rfl)) h, fun _ => ⟨by show 0 ≤ s; omega, by show s ≤ 1048576; omega⟩, fun h => absurd rfl h⟩
  have g := good1 h1 h2
  have hd := J.do_cycles (m := ⟨[itemA L], 0⟩) (x := ⟨1, [65], c, s⟩) (A := []) (B := []) (y := itemA L) g e rfl cut1 rfl (by show (0 : Int) + c ≤ 1048576; omega) (by show (0 : Int) + c * s ≤ 1048576; omega)
  have hd2 : journal_Do ⟨[itemA L], 0⟩ ⟨1, [65], c, s⟩ = some (⟨[⟨[65], L, 0 + c * s, 0, false, 0, 0 + c⟩], 0 + c⟩, 0) := hd
  obtain ⟨d, hdd⟩ : ∃ d : Int, d = 0 + c := ⟨_, rfl⟩
  rw [← hdd] at hd2
  obtain rfl : d = c := by omega
  refine ⟨⟨[65], L, 0 + d * s, 0, false, 0, d⟩, hd2, ?_, rfl, rfl, by show 0 + d * s = d * s; omega, rfl⟩
  obtain ⟨r, r1, _, _, r2⟩ := J.do_eq ⟨[itemA L], 0⟩ ⟨1, [65], d, s⟩ (J.good_short g) (by show 1 ≤ 60; decide)
  rw [hd2] at r1
  obtain rfl := Option.some.inj r1
  exact (r2 rfl).2.2
theorem wear_due {q : Item} {c : Int} (g : J.Good ⟨[q], c⟩) : journal_Due ⟨[q], c⟩ = some (if J.dueB q = true then [q.name] else [], 0) := by
  rw [(J.due_good g).1]
  congr 2
  show J.dueL [q] = _
  rw [J.dueL_cons]
  rfl
theorem wear_step {L s c : Int} (h1 : 1 ≤ L) (h2 : L ≤ 65536) (s1 : 1 ≤ s) (s2 : s ≤ 64) (c1 : 1 ≤ c) (hc : c = J.leftN (itemA L) s ∨ c + 1 = J.leftN (itemA L) s) (k2 : Option Bool) :
    ((journal_Do ⟨[itemA L], 0⟩ (Entry.mk 1 [65] c s)).bind fun r7 =>
          (journal_Due r7.1).bind fun r8 =>
          (journal_Left r7.1 [65] s).bind fun r9 =>
          if ((((IntKind.wrap .i64 ((IntKind.wrap .i64 (r7.2 + r8.2)) + r9.2)) != 0) || (!(((r8.1.length : Int) == 1) == (c == J.leftN (itemA L) s)))) || (r9.1 != (IntKind.wrap .i64 (J.leftN (itemA L) s - c)))) = true then
          some false
        else
          k2) = k2 := by
  obtain ⟨q, d1, d2, d3, d4, d5, d6⟩ := wear1 h1 h2 s1 s2 c1 hc
  have hN : J.leftN (itemA L) s = (L + s - 1) / s := by
    unfold J.leftN itemA
    dsimp only
    rw [if_neg (by omega), Int.tdiv_eq_ediv_of_nonneg (by omega), show L - 0 + s - 1 = L + s - 1 by omega]
  have hle : (L + s - 1) / s * s ≤ L + s - 1 := Int.ediv_mul_le _ (by omega)
  have hlt : L + s - 1 < ((L + s - 1) / s + 1) * s := Int.lt_ediv_add_one_mul_self _ (by omega)
  rw [Int.add_mul, Int.one_mul] at hlt
  have hub : (L + s - 1) / s ≤ L + s - 1 := Int.ediv_le_self s (by omega)
  have hdue := wear_due d2
  have hld := left1 (L := L) (u := 0) (c := c) d2 rfl d3 s1 (by omega : s ≤ 1048576)
  rw [d1, Option.bind_some]
  dsimp only
  rw [hdue, Option.bind_some, hld, Option.bind_some]
  dsimp only
  -- due exactly at the end
  have hdb : J.dueB q = decide (c * s ≥ L) := by unfold J.dueB; rw [d6, d5, d4]; rfl
  have hlq : J.leftN q s = if c * s ≥ L then 0 else (L - c * s + s - 1) / s := by
    unfold J.leftN
    rw [d5, d4]
    split
    · rfl
    · rw [Int.tdiv_eq_ediv_of_nonneg (by omega)]
  have hw0 : IntKind.wrap .i64 (IntKind.wrap .i64 ((0 : Int) + 0) + 0) = 0 := by decide
  rw [hw0, hdb, hlq, hN]
  rcases hc with hc | hc
  · rw [hN] at hc
    have : c * s ≥ L := by rw [hc]; omega
    rw [if_pos this, decide_eq_true this, ← hc, wrap64 (by omega) (by omega), show c - c = 0 by omega]
    simp
  · rw [hN] at hc
    have e : c = (L + s - 1) / s - 1 := by omega
    have hce : c * s = (L + s - 1) / s * s - s := by rw [e, Int.sub_mul, Int.one_mul]
    have : ¬ c * s ≥ L := by omega
    have h1' : (L - c * s + s - 1) / s = 1 := by
      have a1 : (1 : Int) ≤ (L - c * s + s - 1) / s := (Int.le_ediv_iff_mul_le (by omega)).2 (by omega)
      have a2 : (L - c * s + s - 1) / s < 2 := (Int.ediv_lt_iff_lt_mul (by omega)).2 (by omega)
      omega
    rw [if_neg this, decide_eq_false this, h1', wrap64 (by omega) (by omega), show (L + s - 1) / s - c = 1 by omega]
    have hne : (c == (L + s - 1) / s) = false := by rw [beq_eq_false_iff_ne]; omega
    rw [hne]
    simp
theorem law_Wear (s : Sequence) (a l : Int) (a0 : 0 ≤ a) (a1 : a ≤ 255) (l0 : 0 ≤ l) (l1 : l ≤ 65535) : top_TopLogsWear s a l = some true := by
  unfold top_TopLogsWear
  obtain ⟨b, hb, hf⟩ := few14 s
  rw [hb, Option.bind_some, runLog_true, rcheck14]
  cases b
  · rfl
  by_cases hc : checkE s = 0
  · have R := checkE_zero hc
    have n0 := R.n0
    have n1 := R.n1
    have ls := R.l1
    have hw : IntKind.wrap .i64 a = a := wrap64 (by omega) (by omega)
    obtain ⟨i, hi, hit⟩ : ∃ i : Nat, i < s.actuators.toNat ∧ Int.tmod (IntKind.wrap .i64 a) s.actuators = (i : Int) := by
      rw [hw, Int.tmod_eq_emod_of_nonneg a0]
      have q1 := Int.emod_lt_of_pos a (show 0 < s.actuators by omega)
      have q2 := Int.emod_nonneg a (show s.actuators ≠ 0 by omega)
      exact ⟨(a % s.actuators).toNat, by omega, by omega⟩
    have hne : mvsF (i : Int) 0 s.steps ≠ [] := mvsF_ne _ _ _ (List.all_eq_true.1 R.all i (List.mem_range.2 hi))
    have hpos := List.length_pos_iff.2 hne
    have hlen := mvsF_len (i : Int) s.steps 0
    have hm : movesR s (i : Int) = (mvsF (i : Int) 0 s.steps, 0) := by
      unfold movesR
      rw [if_neg (fun q => q hc), if_pos ⟨by omega, by omega⟩]
    have hL : IntKind.wrap .i64 ((IntKind.wrap .i64 l) + 1) = l + 1 := by rw [wrap64 (x := l) (by omega) (by omega), wrap64 (by omega) (by omega)]
    have hrun := run1 (L := l + 1) (by omega) (by omega)
    have s1 : (1 : Int) ≤ ((mvsF (i : Int) 0 s.steps).length : Int) := by omega
    have s2 : ((mvsF (i : Int) 0 s.steps).length : Int) ≤ 64 := by omega
    have hleft := left1 (L := l + 1) (u := 0) (c := 0) (good1 (L := l + 1) (by omega) (by omega)) rfl rfl s1 (by omega)
    unfold newE at hrun
    unfold guardO
    rw [hit]
    simp only [Bool.not_true, Bool.false_eq_true, if_false, Option.bind_some, hc, bne_self_eq_false]
    rw [if_pos (by simp; omega), Option.bind_some, lmoves_eq, hm, Option.bind_some]
    dsimp only
    rw [if_neg (by simp; exact hne), hL, hrun, Option.bind_some]
    dsimp only
    rw [hleft, Option.bind_some]
    dsimp only
    generalize hS : ((mvsF (i : Int) 0 s.steps).length : Int) = S at *
    have hN1 : 1 ≤ J.leftN (itemA (l + 1)) S ∧ J.leftN (itemA (l + 1)) S ≤ 70000 := by
      unfold J.leftN itemA
      dsimp only
      rw [if_neg (by omega), Int.tdiv_eq_ediv_of_nonneg (by omega)]
      have := Int.ediv_le_self S (show 0 ≤ l + 1 - 0 + S - 1 by omega)
      have := (Int.le_ediv_iff_mul_le (show 0 < S by omega)).2 (show 1 * S ≤ l + 1 - 0 + S - 1 by omega)
      omega
    have hw0 : IntKind.wrap .i64 ((0 : Int) + 0) = 0 := by decide
    rw [hw0, if_neg (by simp; omega)]
    unfold joinK
    dsimp only
    have hw1 : IntKind.wrap .i64 (J.leftN (itemA (l + 1)) S - 1) = J.leftN (itemA (l + 1)) S - 1 := wrap64 (by omega) (by omega)
    rw [hw1]
    -- two rounds
    have l3 : (Int.toNat ((([J.leftN (itemA (l + 1)) S - 1, J.leftN (itemA (l + 1)) S] : List Int).length : Int) - 0) + 1) = 3 := rfl
    rw [l3]
    have r1 : at? ([J.leftN (itemA (l + 1)) S - 1, J.leftN (itemA (l + 1)) S] : List Int) 0 = some (J.leftN (itemA (l + 1)) S - 1) := rfl
    have r2 : at? ([J.leftN (itemA (l + 1)) S - 1, J.leftN (itemA (l + 1)) S] : List Int) 1 = some (J.leftN (itemA (l + 1)) S) := rfl
    have fin : ∀ k, top_TopLogsWear_loop1 (mvsF (i : Int) 0 s.steps, 0) (⟨[itemA (l + 1)], 0⟩, 0, 0) (J.leftN (itemA (l + 1)) S, 0) k 1 2 = k := fun k => rfl
    have w1 : IntKind.wrap .i64 ((0 : Int) + 1) = 1 := by decide
    have w2 : IntKind.wrap .i64 ((1 : Int) + 1) = 2 := by decide
    have two : ∀ k, top_TopLogsWear_loop1 (mvsF (i : Int) 0 s.steps, 0) (⟨[itemA (l + 1)], 0⟩, 0, 0) (J.leftN (itemA (l + 1)) S, 0) k 2 1 = k := fun k => by
      rw [top_TopLogsWear_loop1]
      unfold joinK
      dsimp only
      rw [hw1, if_pos (by rfl), r2, Option.bind_some, w2, fin, if_neg (by simp; omega), hS]
      exact wear_step (by omega) (by omega) s1 s2 (by omega) (.inl rfl) _
    rw [top_TopLogsWear_loop1]
    unfold joinK
    dsimp only
    rw [hw1, if_pos (by rfl), r1, Option.bind_some, w1, two]
    by_cases hz : J.leftN (itemA (l + 1)) S - 1 = 0
    · rw [if_pos (by simpa using hz)]
    · rw [if_neg (by simpa using hz), hS, wear_step (by omega) (by omega) s1 s2 (by omega) (.inr (by omega)) _]
  · simp [hc]
end Go.Proofs.YtcgmhlakihjbkaaGreatDoor.W
