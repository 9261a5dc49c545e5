/- The plain laws of the journal's logs: JournalSpoils. No program in sight. -/
import Derived.Test.YtpigfknmlmeihaaGreatDoorLawW
set_option linter.unusedVariables false
set_option linter.unusedSimpArgs false
set_option maxHeartbeats 2000000
namespace Go.Proofs.YtpigfknmlmeihaaGreatDoor.W
open Go Go.RowKit
theorem markS_inj {a a' : Int} {b : UInt8} (h0 : 0 ≤ a) (h1 : a < 65521) (k0 : 0 ≤ a') (k1 : a' < 65521) (h : markS a b = markS a' b) : a = a' := by
  unfold markS at h
  rw [Int.tmod_eq_emod_of_nonneg (by omega), Int.tmod_eq_emod_of_nonneg (by omega)] at h
  omega
theorem markS_byte {a : Int} {b c : UInt8} (h0 : 0 ≤ a) (h1 : a < 65521) (h : markS a b = markS a c) : b = c := by
  unfold markS at h
  rw [Int.tmod_eq_emod_of_nonneg (by omega), Int.tmod_eq_emod_of_nonneg (by omega)] at h
  have hb := UInt8.toNat_lt b
  have hc := UInt8.toNat_lt c
  apply UInt8.toNat_inj.1
  omega
theorem mark_fold_inj : ∀ (s : List UInt8) {a a' : Int}, 0 ≤ a → a < 65521 → 0 ≤ a' → a' < 65521 → s.foldl markS a = s.foldl markS a' → a = a'
  | [], a, a', _, _, _, _, h => h
  | b :: s, a, a', h0, h1, k0, k1, h => markS_inj h0 h1 k0 k1 (mark_fold_inj s (markS_bd h0 h1).1 (markS_bd h0 h1).2 (markS_bd k0 k1).1 (markS_bd k0 k1).2 h)
theorem mark_differ {h : Int} {u w : List UInt8} {b c : UInt8} (h0 : 0 ≤ h) (h1 : h < 65521) (e : markOf h (u ++ b :: w) = markOf h (u ++ c :: w)) : b = c := by
  unfold markOf at e
  rw [List.foldl_append, List.foldl_append, List.foldl_cons, List.foldl_cons] at e
  have hu := mark_fold_bd u h h0 h1
  exact markS_byte hu.1 hu.2 (mark_fold_inj w (markS_bd hu.1 hu.2).1 (markS_bd hu.1 hu.2).2 (markS_bd hu.1 hu.2).1 (markS_bd hu.1 hu.2).2 e)
theorem decM_inj {a b : Int} (h0 : 0 ≤ a) (h1 : 0 ≤ b) (h : decM a = decM b) : a = b := by
  unfold decM at h
  have := congrArg numV h
  rw [dec_val, dec_val] at this
  omega
/-- A right line of which a byte is changed is not right. -/
theorem spoil_line {h : Int} {x y : Entry} {u v t : List UInt8} {b c : UInt8} (e : GoodE x) (ey : GoodE y) (h0 : 0 ≤ h) (h1 : h < 65521) (hx : lineOf h x = u ++ c :: v) (hbc : b ≠ c) (hy : u ++ b :: v = textS y ++ [32, 59, 32] ++ decM (markOf h (textS y))) : False := by
  have nX : (59 : UInt8) ∉ textS x := plain_no (by decide) (plain_text e)
  have nY : (59 : UInt8) ∉ textS y := plain_no (by decide) (plain_text ey)
  have dX : (59 : UInt8) ∉ decM (markOf h (textS x)) := plain_no (by decide) (dec_plain _)
  have dY : (59 : UInt8) ∉ decM (markOf h (textS y)) := plain_no (by decide) (dec_plain _)
  have bX := markOf_bd (s := textS x) h0 h1
  have bY := markOf_bd (s := textS y) h0 h1
  have cX : (u ++ c :: v).count 59 = 1 := by
    rw [← hx]
    unfold lineOf
    rw [List.count_append, List.count_append, List.count_eq_zero.2 nX, List.count_eq_zero.2 dX]; rfl
  have cY : (u ++ b :: v).count 59 = 1 := by
    rw [hy, List.count_append, List.count_append, List.count_eq_zero.2 nY, List.count_eq_zero.2 dY]; rfl
  rw [List.count_append, List.count_cons] at cX cY
  have c59 : c ≠ 59 ∧ b ≠ 59 := by
    by_cases q1 : c = 59
    · have q2 : b ≠ 59 := fun q => hbc (by rw [q, q1])
      simp only [q1, q2, beq_iff_eq, if_true, if_false] at cX cY
      omega
    · by_cases q2 : b = 59
      · simp only [q1, q2, beq_iff_eq, if_true, if_false] at cX cY
        omega
      · exact ⟨q1, q2⟩
  have e1 : u ++ (c :: v) = textS x ++ ([32, 59, 32] ++ decM (markOf h (textS x))) := by rw [← hx]; simp [lineOf]
  have e2 : (u ++ b :: v) = (textS y ++ [32]) ++ 59 :: (32 :: decM (markOf h (textS y))) := by rw [hy]; simp
  rcases List.append_eq_append_iff.1 e1 with ⟨a, ha, hv⟩ | ⟨a, ha, hv⟩
  · -- textS x = u ++ a
    cases a with
    | nil =>
      rw [List.nil_append] at hv
      rw [List.append_nil] at ha
      injection hv with hv1 hv2
      have e3 : (u ++ [b]) ++ 59 :: (32 :: decM (markOf h (textS x))) = (textS y ++ [32]) ++ 59 :: (32 :: decM (markOf h (textS y))) := by
        rw [← e2, hv2]; simp
      obtain ⟨s1, _⟩ := semi_unique _ _ _ _ e3 (by rw [List.mem_append, ← ha]; rintro (q | q); exact nX q; exact c59.2 (List.mem_singleton.1 q).symm) (by simp [nY])
      have := List.append_inj_right' s1 rfl
      injection this with q
      exact hbc (by rw [q, hv1])
    | cons a0 a =>
      rw [List.cons_append] at hv
      injection hv with hv1 hv2
      subst hv1
      have na : (59 : UInt8) ∉ u ++ b :: a := by
        rw [List.mem_append, List.mem_cons]
        rintro (q | q | q)
        · exact nX (by rw [ha]; simp [q])
        · exact c59.2 q.symm
        · exact nX (by rw [ha]; simp [q])
      have e3 : (u ++ b :: a) ++ [32, 59, 32] ++ decM (markOf h (textS x)) = textS y ++ [32, 59, 32] ++ decM (markOf h (textS y)) := by
        rw [← hy, hv2]; simp
      obtain ⟨s1, s2⟩ := semi_line na nY e3
      have hm := decM_inj bX.1 bY.1 s2
      rw [ha, ← s1] at hm
      exact hbc (mark_differ h0 h1 hm).symm
  · -- u = textS x ++ a
    have tail : ∀ z : Nat, [32, 59, 32] ++ decM (markOf h (textS x)) = a ++ c :: v → a = [] ∨ a = [32] ∨ a = [32, 59] ∨ ∃ a', a = 32 :: 59 :: 32 :: a' ∧ decM (markOf h (textS x)) = a' ++ c :: v := fun _ q => by
      cases a with
      | nil => exact .inl rfl
      | cons a0 a =>
        right
        simp only [List.cons_append, List.nil_append] at q
        injection q with q1 q
        cases a with
        | nil => left; rw [← q1]
        | cons a2 a =>
          right
          rw [List.cons_append] at q
          injection q with q2 q
          cases a with
          | nil => left; rw [← q1, ← q2]
          | cons a3 a =>
            right
            rw [List.cons_append] at q
            injection q with q3 q
            exact ⟨a, by rw [← q1, ← q2, ← q3], q⟩
    rcases tail 0 hv with rfl | rfl | rfl | ⟨a', rfl, hd⟩
    · simp only [List.cons_append, List.nil_append] at hv
      injection hv with hv1 hv2
      rw [List.append_nil] at ha
      have e3 : (u ++ [b]) ++ 59 :: (32 :: decM (markOf h (textS x))) = (textS y ++ [32]) ++ 59 :: (32 :: decM (markOf h (textS y))) := by
        rw [← e2, ← hv2]; simp
      obtain ⟨s1, _⟩ := semi_unique _ _ _ _ e3 (by rw [List.mem_append, ha]; rintro (q | q); exact nX q; exact c59.2 (List.mem_singleton.1 q).symm) (by simp [nY])
      have := List.append_inj_right' s1 rfl
      injection this with q
      exact hbc (by rw [q, hv1])
    · simp only [List.cons_append, List.nil_append] at hv
      injection hv with _ hv
      injection hv with hv1 _
      exact c59.1 hv1.symm
    · simp only [List.cons_append, List.nil_append] at hv
      injection hv with _ hv
      injection hv with _ hv
      injection hv with hv1 hv2
      have e3 : (textS x ++ [32]) ++ 59 :: (b :: v) = (textS y ++ [32]) ++ 59 :: (32 :: decM (markOf h (textS y))) := by
        rw [← e2, ha]; simp
      obtain ⟨_, s2⟩ := semi_unique _ _ _ _ e3 (by simp [nX]) (by simp [nY])
      injection s2 with q
      exact hbc (by rw [q, hv1])
    · have e3 : textS x ++ [32, 59, 32] ++ (a' ++ b :: v) = textS y ++ [32, 59, 32] ++ decM (markOf h (textS y)) := by
        rw [← hy, ha]; simp
      obtain ⟨s1, s2⟩ := semi_line nX nY e3
      rw [← s1, hd] at s2
      have := List.append_cancel_left s2
      injection this with q
      exact hbc q
/-- where a byte of a log stands -/
theorem at_lines : ∀ (l : List Entry) (h : Int) (k : Nat) (c : UInt8), (linesS h l)[k]? = some c → c ≠ 10 → ∃ l1 x l2 u v, l = l1 ++ x :: l2 ∧ lineOf (markL h l1) x = u ++ c :: v ∧ k = (linesS h l1).length + u.length
  | [], h, k, c, e, _ => by simp [linesS] at e
  | x :: r, h, k, c, e, hc => by
    rw [linesS] at e
    by_cases hq : k < (lineOf h x).length
    · rw [List.getElem?_append_left hq] at e
      refine ⟨[], x, r, (lineOf h x).take k, (lineOf h x).drop (k + 1), rfl, ?_, by simp [linesS]; omega⟩
      show lineOf h x = _
      have hg : (lineOf h x)[k]'hq = c := by
        rw [List.getElem?_eq_getElem hq] at e
        exact Option.some.inj e
      rw [← hg]
      rw [List.getElem_cons_drop]
      exact (List.take_append_drop k _).symm
    · rw [List.getElem?_append_right (by omega)] at e
      cases hk : k - (lineOf h x).length with
      | zero => rw [hk] at e; simp at e; exact absurd e.symm hc
      | succ b =>
        rw [hk, List.getElem?_cons_succ] at e
        obtain ⟨l1, y, l2, u, v, h1, h2, h3⟩ := at_lines r _ b c e hc
        exact ⟨x :: l1, y, l2, u, v, by rw [h1]; rfl, h2, by simp [linesS]; omega⟩
theorem law_Spoils (l : List Entry) (at_ b : Int) (a0 : 0 ≤ at_) (a1 : at_ ≤ 65535) (b0 : 0 ≤ b) (b1 : b ≤ 255) : law58_JournalSpoils l at_ b = some true := by
  obtain ⟨ok, hb, hok⟩ := right_run l
  unfold law58_JournalSpoils
  rw [hb, Option.bind_some]
  by_cases hz : (!ok || (l.length : Int) == 0) = true
  · rw [if_pos hz, awake_true]; rfl
  · rw [if_neg hz]
    rw [Bool.not_eq_true, Bool.or_eq_false_iff] at hz
    have hok' : ok = true := by simpa using hz.1
    have hne : l ≠ [] := fun q => by subst q; simp at hz
    obtain ⟨hs, h20, hr⟩ := hok hok'
    have hg := goodE_run l 0 _ hs good0 hr
    have hll := lines_len l (h := 0) hg (by omega) (by omega)
    have h1 : 1 ≤ l.length := by
      cases l with
      | nil => exact absurd rfl hne
      | cons x r => simp
    rw [log_text l hs h20 hr, Option.bind_some]
    have hsne : (linesS 0 l == []) = false := by
      rw [beq_eq_false_iff_ne]
      intro q
      exact hne (by simpa [q] using hll.1)
    rw [if_neg (by simp [hsne])]
    generalize hS : linesS 0 l = S at *
    have hgu : guardO ((S.length : Int) != 0) = some () := by
      unfold guardO
      rw [if_pos (bne_iff_ne.2 (by omega))]
    have wa : IntKind.wrap .i64 at_ = at_ := wrap64 (by omega) (by omega)
    obtain ⟨k, hk⟩ : ∃ k : Nat, Int.tmod at_ (S.length : Int) = (k : Int) := ⟨(Int.tmod at_ (S.length : Int)).toNat, by rw [Int.tmod_eq_emod_of_nonneg a0]; have := Int.emod_nonneg at_ (show (S.length : Int) ≠ 0 by omega); omega⟩
    have hkl : k < S.length := by
      rw [Int.tmod_eq_emod_of_nonneg a0] at hk
      have := Int.emod_lt_of_pos at_ (show 0 < (S.length : Int) by omega)
      omega
    obtain ⟨c, hc⟩ : ∃ c, S[k]? = some c := ⟨_, List.getElem?_eq_getElem hkl⟩
    have hby : byteAt S (k : Int) = some c := by
      unfold byteAt
      rw [if_pos (by omega)]
      simpa using hc
    rw [hgu, Option.bind_some, wa, hk, hby, Option.bind_some, Option.bind_some]
    obtain ⟨B, hB⟩ : ∃ B : UInt8, (B.toNat : Int) = b := ⟨UInt8.ofNat b.toNat, by rw [UInt8.toNat_ofNat']; omega⟩
    subst hB
    have hbs : bytesS ([(B.toNat : Int)] : List Int) = [B] := by simp [bytesS]
    have t10 : ∀ z : UInt8, ((z.toNat : Int) == 10) = (z == 10) := fun z => by
      rw [Bool.eq_iff_iff, beq_iff_eq, beq_iff_eq]
      constructor
      · intro h
        exact UInt8.toNat_inj.1 (by have : (10 : UInt8).toNat = 10 := rfl; omega)
      · intro h; rw [h]; rfl
    have tcb : ((c.toNat : Int) == (B.toNat : Int)) = (c == B) := by
      rw [Bool.eq_iff_iff, beq_iff_eq, beq_iff_eq]
      constructor
      · intro h; exact UInt8.toNat_inj.1 (by omega)
      · intro h; rw [h]
    rw [tcb, t10 c, t10 B]
    by_cases hq : c = B ∨ c = 10 ∨ B = 10
    · have : ∃ z, (if (c == B) = true then some true else some (c == 10)) = some z ∧ (z || B == 10) = true := by
        by_cases q1 : c = B
        · exact ⟨true, by rw [if_pos (beq_iff_eq.2 q1)], rfl⟩
        · refine ⟨c == 10, by rw [if_neg (fun q => q1 (beq_iff_eq.1 q))], ?_⟩
          rcases hq with h | h | h
          · exact absurd h q1
          · rw [h]; rfl
          · rw [h]; simp
      obtain ⟨z, z1, z2⟩ := this
      rw [z1, Option.bind_some, if_pos z2, awake_true]
      rfl
    · have q1 : c ≠ B := fun q => hq (.inl q)
      have q2 : c ≠ 10 := fun q => hq (.inr (.inl q))
      have q3 : B ≠ 10 := fun q => hq (.inr (.inr q))
      have z1 : (c == B) = false := beq_eq_false_iff_ne.2 q1
      have z2 : (c == 10) = false := beq_eq_false_iff_ne.2 q2
      have z3 : (B == 10) = false := beq_eq_false_iff_ne.2 q3
      rw [z1, if_neg (by decide), Option.bind_some, z2, z3, if_neg (by decide)]
      subst hS
      obtain ⟨l1, x, l2, u, v, hl, hline, hpos⟩ := at_lines l 0 k c hc q2
      have hS2 : linesS 0 l = linesS 0 l1 ++ (u ++ c :: v) ++ 10 :: linesS (markOf (markL 0 l1) (textS x)) l2 := by
        rw [hl, lines_app, linesS, hline]; simp
      generalize linesS (markOf (markL 0 l1) (textS x)) l2 = rest at hS2
      have ex : GoodE x := hg x (by rw [hl]; simp)
      have nu : (10 : UInt8) ∉ u ++ c :: v := by rw [← hline]; exact line_no10 ex
      have nu1 : (10 : UInt8) ∉ u := fun q => nu (by simp [q])
      have nv : (10 : UInt8) ∉ u ++ B :: v := by
        rw [List.mem_append, List.mem_cons]
        rintro (q | q | q)
        · exact nu1 q
        · exact q3 q.symm
        · exact nu (by simp [q])
      have tk : (linesS 0 l).take k = linesS 0 l1 ++ u := by
        rw [hS2, hpos, show linesS 0 l1 ++ (u ++ c :: v) ++ 10 :: rest = (linesS 0 l1 ++ u) ++ (c :: v ++ 10 :: rest) by simp]
        rw [← List.length_append]
        exact List.take_left' rfl
      have dk : (linesS 0 l).drop (k + 1) = v ++ 10 :: rest := by
        rw [hS2, hpos, show linesS 0 l1 ++ (u ++ c :: v) ++ 10 :: rest = (linesS 0 l1 ++ u ++ [c]) ++ (v ++ 10 :: rest) by simp]
        rw [show (linesS 0 l1).length + u.length + 1 = (linesS 0 l1 ++ u ++ [c]).length by rw [List.length_append, List.length_append]; rfl]
        exact List.drop_left' rfl
      have hlen : (linesS 0 l).length ≤ 1600 := by omega
      have hlenE : (linesS 0 l).length = (linesS 0 l1).length + (u.length + 1 + v.length) + 1 + rest.length := by rw [hS2]; simp; omega
      have wk : IntKind.wrap .i64 ((k : Int) + 1) = ((k + 1 : Nat) : Int) := by rw [wrap64 (by omega) (by omega)]; omega
      have hck : cut (linesS 0 l) 0 (k : Int) = some (linesS 0 l1 ++ u) := by rw [cut_take (by omega), tk]
      have hcd : cut (linesS 0 l) ((k + 1 : Nat) : Int) ((linesS 0 l).length : Int) = some (v ++ 10 :: rest) := by rw [cut_drop (by omega), dk]
      rw [hck, Option.bind_some, wk, hcd, Option.bind_some, hbs, catO_small (by simp; omega), Option.bind_some, catO_small (by simp; omega), Option.bind_some]
      have hbad : linesS 0 l1 ++ u ++ [B] ++ (v ++ 10 :: rest) = linesS 0 l1 ++ ((u ++ B :: v) ++ 10 :: rest) := by simp
      rw [hbad]
      -- what is loaded of it
      have hs1 : SmallE l1 := fun y hy => hs y (by rw [hl]; simp [hy])
      have hr1 : (runS 0 ⟨[], 0⟩ l1).2.2 = 0 := run_app l1 (x :: l2) 0 _ (by rw [← hl]; exact hs) good0 (by rw [← hl]; exact hr)
      have hg1 : ∀ y ∈ l1, GoodE y := fun y hy => hg y (by rw [hl]; simp [hy])
      have hl1 : l1.length ≤ 20 := by
        have : l.length = l1.length + (l2.length + 1) := by rw [hl]; simp
        omega
      have hbl : (linesS 0 l1 ++ ((u ++ B :: v) ++ 10 :: rest)).length ≤ 1600 := by
        simp only [List.length_append, List.length_cons] at hlenE ⊢
        omega
      have hmb := markL_bd l1 (h := 0) (by omega) (by omega)
      have hll1 := lines_len l1 (h := 0) hg1 (by omega) (by omega)
      have hload : ∃ (m : Machine) (h e : Int), e ≠ 0 ∧ journal_readAll (linesS 0 l1 ++ ((u ++ B :: v) ++ 10 :: rest)) = some (⟨m, h, (l1.length : Int), ((linesS 0 l1).length : Int)⟩, e) := by
        obtain ⟨f, hf⟩ : ∃ f, (linesS 0 l1 ++ ((u ++ B :: v) ++ 10 :: rest)).length + 1 = (f + 1) + l1.length := ⟨(linesS 0 l1 ++ ((u ++ B :: v) ++ 10 :: rest)).length - l1.length, by
          have : l1.length ≤ (linesS 0 l1 ++ ((u ++ B :: v) ++ 10 :: rest)).length := by rw [List.length_append]; omega
          omega⟩
        obtain ⟨_, g1, h3⟩ := load_lines l1 ⟨[], 0⟩ 0 0 0 0 (f + 1) ((u ++ B :: v) ++ 10 :: rest) hs1 good0 hr1 (by omega) (by omega) (by omega) (by omega)
        rw [← hf, Nat.zero_add, Nat.zero_add] at h3
        have hj := jstep f (u ++ B :: v) rest (runS 0 ⟨[], 0⟩ l1).1 (markL 0 l1) l1.length (linesS 0 l1).length nv (by rw [List.length_append] at hbl; omega) g1 hmb.1 hmb.2 (by omega) (by omega)
        have stop : ∀ e : Int, e ≠ 0 → journal_readAll_loop1 (f + 1) ((u ++ B :: v) ++ 10 :: rest) (runS 0 ⟨[], 0⟩ l1).1.items (runS 0 ⟨[], 0⟩ l1).1.cycles (markL 0 l1) (l1.length : Int) ((linesS 0 l1).length : Int) = some (⟨(runS 0 ⟨[], 0⟩ l1).1, markL 0 l1, (l1.length : Int), ((linesS 0 l1).length : Int)⟩, e) → ∃ (m : Machine) (h e : Int), e ≠ 0 ∧ journal_readAll (linesS 0 l1 ++ ((u ++ B :: v) ++ 10 :: rest)) = some (⟨m, h, (l1.length : Int), ((linesS 0 l1).length : Int)⟩, e) := fun e he q =>
          ⟨_, _, e, he, by unfold journal_readAll; exact h3.trans q⟩
        rcases hj with ⟨_, q⟩ | ⟨p, t, hpt, _, hj⟩
        · exact stop 19 (by decide) q
        · rcases hj with ⟨_, q⟩ | ⟨ht, r, _, hj⟩
          · exact stop 19 (by decide) q
          · rcases hj with ⟨_, q⟩ | ⟨_, ey, hty, d, _, hj⟩
            · exact stop 4 (by decide) q
            · rcases hj with ⟨he, q⟩ | _
              · exact stop _ he q
              · exfalso
                exact spoil_line (t := t) ex ey hmb.1 hmb.2 hline (fun q => q1 q.symm) (by rw [hpt, ht, hty])
      obtain ⟨m, h, e, he, hra⟩ := hload
      have lB := load_of (by omega) hra
      rw [if_neg he] at lB
      have pB := repaired_of (by omega) hra (a := (linesS 0 l1).length) rfl (by simp)
      rw [List.take_left' rfl] at pB
      have hcount : countS (linesS 0 l1 ++ u) [10] = some ((l1.length : Nat) : Int) := by
        rw [count_eq, List.count_append, lines_count _ _ hg1, List.count_eq_zero.2 nu1]
        rfl
      have hend : linesS 0 l1 = [] ∨ ∃ u', linesS 0 l1 = u' ++ [10] := by
        by_cases hz : l1 = []
        · left; rw [hz]; rfl
        · right; exact lines_end _ _ hz
      have hli := last_nl hend nu1 (by rw [List.length_append]; omega)
      have wz : IntKind.wrap .i64 (((linesS 0 l1).length : Int) - 1 + 1) = ((linesS 0 l1).length : Int) := by rw [wrap64 (by omega) (by omega)]; omega
      have hcut3 : cut (linesS 0 l) 0 ((linesS 0 l1).length : Int) = some (linesS 0 l1) := by
        rw [cut_take (by omega), hS2, List.append_assoc, List.take_left' rfl]
      have be : (e != 0) = true := bne_iff_ne.2 he
      simp only [lB, Option.bind_some, be, if_true, hck, hcount, pB, hli, wz, hcut3, BEq.rfl, awake_true]
end Go.Proofs.YtpigfknmlmeihaaGreatDoor.W
