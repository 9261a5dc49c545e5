/- The plain laws of strokes, second part: steps, their checks and texts. No program in sight. -/
import Derived.Test.YtbhcojijafbdiaaGreatDoorLawA
set_option linter.unusedVariables false
set_option linter.unusedSimpArgs false
set_option maxHeartbeats 2000000
namespace Go.Proofs.YtbhcojijafbdiaaGreatDoor.W
open Go Go.RowKit
/-! ### checks -/
def chkS (wait : Int) (last : Int) : List Stroke → Int
  | [] => if wait < 0 ∨ wait > 1000000 then 2 else 0
  | y :: r => if ¬ (0 ≤ y.actuator ∧ y.actuator < 6) then 2 else if y.actuator = last then 7 else if y.actuator < last then 9 else chkS wait y.actuator r
def chk (x : Step) : Int := if x.strokes.length = 0 then 13 else if 6 < x.strokes.length then 5 else chkS x.wait (-1) x.strokes
theorem known_eq (n : Int) : stroke_known n = some (decide (0 ≤ n ∧ n < 6)) ∧ ref13_Actuator n = some (decide (0 ≤ n ∧ n < 6)) := by
  unfold stroke_known ref13_Actuator
  have : (decide (n ≥ 0) && decide (n < 6)) = decide (0 ≤ n ∧ n < 6) := by
    rw [Bool.eq_iff_iff, Bool.and_eq_true, decide_eq_true_eq, decide_eq_true_eq, decide_eq_true_eq]
  rw [this]
  exact ⟨rfl, rfl⟩
theorem lchk_loop (x : Step) (hl : x.strokes.length ≤ 100) : ∀ (r pre : List Stroke) (last : Int), x.strokes = pre ++ r → stroke_CheckStep_loop1 x (if ((decide (x.wait < 0)) || (decide (x.wait > 1000000))) = true then some 2 else some 0) (r.length + 1) last (pre.length : Int) = some (chkS x.wait last r)
  | [], pre, last, e => by
    unfold stroke_CheckStep_loop1
    rw [e, ge_end, chkS]
    by_cases h : x.wait < 0 ∨ x.wait > 1000000
    · rw [if_pos h]; simp [h]
    · rw [if_neg h]; simp [h]
  | y :: r, pre, last, e => by
    have ih := lchk_loop x hl r (pre ++ [y]) y.actuator (by rw [e, mid_cons])
    unfold stroke_CheckStep_loop1
    rw [e, lt_mid, if_pos rfl, at?_mid, Option.bind_some, (known_eq _).1, Option.bind_some, wrap_mid (x := y) (r := r) (by rw [← e]; omega), chkS]
    rw [List.length_cons, ih]
    simp only [Bool.not_eq_true', decide_eq_false_iff_not, beq_iff_eq, decide_eq_true_eq]
    repeat' split
    all_goals first | rfl | (exfalso; omega)
theorem lchk_eq (x : Step) : stroke_CheckStep x = some (chk x) := by
  unfold stroke_CheckStep chk
  by_cases h0 : x.strokes.length = 0
  · rw [if_pos (by simp [h0]), if_pos h0]
  · rw [if_neg (by simpa using h0), if_neg h0]
    by_cases h6 : 6 < x.strokes.length
    · rw [if_pos (by rw [decide_eq_true_eq]; omega), if_pos h6]
    · rw [if_neg (by rw [decide_eq_true_eq]; omega), if_neg h6]
      unfold joinK
      dsimp only
      rw [fuel0]
      exact lchk_loop x (by omega) x.strokes [] (-1) rfl
def prevA (pre : List Stroke) : Int := match pre.getLast? with | none => -1 | some z => z.actuator
theorem prevA_nil : prevA [] = -1 := rfl
theorem prevA_snoc (pre : List Stroke) (y : Stroke) : prevA (pre ++ [y]) = y.actuator := by unfold prevA; simp
theorem prevA_of {pre : List Stroke} {z : Stroke} (h : pre.getLast? = some z) : prevA pre = z.actuator := by unfold prevA; rw [h]
theorem rchk_loop (x : Step) (hl : x.strokes.length ≤ 100) : ∀ (r pre : List Stroke), x.strokes = pre ++ r → (∀ z ∈ pre, 0 ≤ z.actuator) → ref13_CheckStep_loop1 x ((ref03_Time x.wait).bind fun r2 => if (!r2) = true then some 2 else some 0) (r.length + 1) (pre.length : Int) = some (chkS x.wait (prevA pre) r)
  | [], pre, e, _ => by
    unfold ref13_CheckStep_loop1 ref03_Time
    rw [e, ge_end, chkS]
    by_cases h : x.wait < 0 ∨ x.wait > 1000000
    · rw [if_pos h]
      have : ¬ (0 ≤ x.wait ∧ x.wait ≤ 1000000) := by omega
      simp
      omega
    · rw [if_neg h]
      simp
      omega
  | y :: r, pre, e, hp => by
    have hlen : x.strokes.length = pre.length + (r.length + 1) := by rw [e]; simp
    have hat : at? x.strokes (pre.length : Int) = some y := by rw [e]; exact at?_mid
    unfold ref13_CheckStep_loop1
    rw [if_pos (by rw [decide_eq_true_eq]; omega), hat]
    simp only [Option.bind_some]
    rw [(known_eq _).2, Option.bind_some, chkS, wrap64 (x := (pre.length : Int) + 1) (by omega) (by omega)]
    by_cases h1 : 0 ≤ y.actuator ∧ y.actuator < 6
    · have ih := rchk_loop x hl r (pre ++ [y]) (by rw [e, mid_cons]) (fun z hz => by
        rcases List.mem_append.1 hz with hz | hz
        · exact hp z hz
        · rw [List.mem_singleton.1 hz]; exact h1.1)
      have e2 : (((pre ++ [y]).length : Nat) : Int) = (pre.length : Int) + 1 := by simp
      rw [e2, prevA_snoc] at ih
      rw [List.length_cons, ih]
      by_cases hpe : pre = []
      · subst hpe
        have c0 : decide ((([] : List Stroke).length : Int) > 0) = false := by simp
        rw [c0, prevA_nil]
        simp only [Bool.false_eq_true, if_false, Option.bind_some, Bool.not_eq_true', decide_eq_false_iff_not]
        have hneg : ¬ y.actuator = -1 ∧ ¬ y.actuator < -1 := by omega
        rw [if_neg hneg.1, if_neg hneg.2]
        repeat' split
        all_goals first | rfl | (exfalso; omega)
      · obtain ⟨z, hz⟩ : ∃ z, pre.getLast? = some z := ⟨pre.getLast hpe, List.getLast?_eq_some_getLast hpe⟩
        have hpos : 0 < pre.length := List.length_pos_iff.2 hpe
        have hprev : at? x.strokes (IntKind.wrap .i64 ((pre.length : Int) - 1)) = some z := by rw [e, at?_last hpe (by omega), hz]
        have c1 : decide ((pre.length : Int) > 0) = true := decide_eq_true (by omega)
        rw [c1, hprev, prevA_of hz]
        simp only [if_true, Option.bind_some, Bool.not_eq_true', decide_eq_false_iff_not, beq_iff_eq, decide_eq_true_eq]
        repeat' split
        all_goals first | rfl | (exfalso; omega)
    · rw [decide_eq_false h1]
      simp [h1]
theorem rchk_eq (x : Step) : ref13_CheckStep x = some (chk x) := by
  unfold ref13_CheckStep chk
  by_cases h0 : x.strokes.length = 0
  · rw [if_pos (by simp [h0]), if_pos h0]
  · rw [if_neg (by simpa using h0), if_neg h0]
    by_cases h6 : 6 < x.strokes.length
    · rw [if_pos (by rw [decide_eq_true_eq]; omega), if_pos h6]
    · rw [if_neg (by rw [decide_eq_true_eq]; omega), if_neg h6]
      unfold joinK
      dsimp only
      rw [fuel0]
      exact rchk_loop x (by omega) x.strokes [] rfl (by simp)
/-- right strokes behind one -/
def Asc (last : Int) : List Stroke → Prop
  | [] => True
  | y :: r => 0 ≤ y.actuator ∧ y.actuator < 6 ∧ last < y.actuator ∧ Asc y.actuator r
structure GoodS (x : Step) : Prop where
  ne : x.strokes ≠ []
  few : x.strokes.length ≤ 6
  asc : Asc (-1) x.strokes
  w0 : 0 ≤ x.wait
  w1 : x.wait ≤ 1000000
theorem chkS_zero {w : Int} : ∀ {r : List Stroke} {last : Int}, chkS w last r = 0 ↔ Asc last r ∧ 0 ≤ w ∧ w ≤ 1000000
  | [], last => by
    rw [chkS, Asc]
    split
    · simp; omega
    · simp; omega
  | y :: r, last => by
    rw [chkS, Asc]
    split
    · rename_i h; simp; omega
    · rename_i h1
      split
      · rename_i h; simp; omega
      · rename_i h2
        split
        · rename_i h; simp; omega
        · rename_i h3
          rw [chkS_zero]
          have : 0 ≤ y.actuator ∧ y.actuator < 6 := Decidable.not_not.1 h1
          constructor
          · rintro ⟨a, b⟩; exact ⟨⟨this.1, this.2, by omega, a⟩, b⟩
          · rintro ⟨⟨_, _, _, a⟩, b⟩; exact ⟨a, b⟩
theorem chk_zero {x : Step} : chk x = 0 ↔ GoodS x := by
  unfold chk
  constructor
  · intro h
    split at h
    · cases h
    · rename_i h0
      split at h
      · cases h
      · rename_i h6
        obtain ⟨a, b, c⟩ := chkS_zero.1 h
        exact ⟨fun q => h0 (by rw [q]; rfl), by omega, a, b, c⟩
  · rintro ⟨a, b, c, d, e⟩
    have : 0 < x.strokes.length := List.length_pos_iff.2 a
    rw [if_neg (by omega), if_neg (by omega)]
    exact chkS_zero.2 ⟨c, d, e⟩
theorem asc_mem : ∀ {r : List Stroke} {last : Int}, Asc last r → ∀ y ∈ r, 0 ≤ y.actuator ∧ y.actuator < 6 ∧ last < y.actuator
  | z :: r, last, h, y, hy => by
    rcases List.mem_cons.1 hy with rfl | hy
    · exact ⟨h.1, h.2.1, h.2.2.1⟩
    · obtain ⟨a, b, c⟩ := asc_mem h.2.2.2 y hy
      have := h.2.2.1
      exact ⟨a, b, by omega⟩
/-! ### texts of strokes -/
def wr (y : Stroke) : List UInt8 := [UInt8.ofNat (65 + y.actuator.toNat), if y.out then 43 else 45]
theorem enc_at : ∀ a : Fin 6, (Utf8.encode (IntKind.wrap .i32 (IntKind.wrap .i64 (65 + (a.val : Int))))).data.toList = [UInt8.ofNat (65 + a.val)] := by decide +kernel
theorem cut_at : ∀ a : Fin 6, cut [65, 66, 67, 68, 69, 70] (a.val : Int) (IntKind.wrap .i64 ((a.val : Int) + 1)) = some [UInt8.ofNat (65 + a.val)] := by decide +kernel
theorem act_fin {n : Int} (h0 : 0 ≤ n) (h1 : n < 6) : ∃ a : Fin 6, n = (a.val : Int) ∧ n.toNat = a.val := ⟨⟨n.toNat, by omega⟩, by simp; omega, rfl⟩
theorem lwr_eq {y : Stroke} (h0 : 0 ≤ y.actuator) (h1 : y.actuator < 6) : stroke_written y = some (wr y) := by
  obtain ⟨a, ha, hb⟩ := act_fin h0 h1
  unfold stroke_written wr
  rw [hb, ha, enc_at]
  cases y.out
  · rw [if_neg (by simp), catO_small (by simp)]; rfl
  · rw [if_pos rfl, catO_small (by simp)]; rfl
theorem rwr_eq {y : Stroke} (h0 : 0 ≤ y.actuator) (h1 : y.actuator < 6) : ref13_Written y = some (wr y) := by
  obtain ⟨a, ha, hb⟩ := act_fin h0 h1
  unfold ref13_Written wr
  rw [hb, ha, cut_at, Option.bind_some]
  cases y.out
  · rw [if_neg (by simp), catO_small (by simp)]; rfl
  · rw [if_pos rfl, catO_small (by simp)]; rfl
theorem join_snoc (sep x : List UInt8) : ∀ l : List (List UInt8), Lib.join (l ++ [x]) sep = if l = [] then x else Lib.join l sep ++ sep ++ x
  | [] => by rw [List.nil_append, Lib.join_one, if_pos rfl]
  | y :: r => by
    rw [if_neg (by simp), List.cons_append, Lib.join_cons, Lib.join_cons]
    simp [Lib.joinTail]
def decW (n : Int) : List UInt8 := Lib.decDigits n.toNat
def words (x : Step) : List (List UInt8) := x.strokes.map wr ++ (if x.wait > 0 then [decW x.wait] else [])
def lineS (x : Step) : List UInt8 := Lib.join (words x) [32]
def textL (l : List Step) : List UInt8 := Lib.join (l.map lineS) [59, 32]
theorem dec7 {n : Nat} (h : n ≤ 1000000) : (Lib.decDigits n).length ≤ 7 := dec_len 6 n (by omega)
theorem itoa_eq {n : Int} (h0 : 0 ≤ n) (h1 : n ≤ 1000000) : itoa n = some (decW n) := by
  unfold itoa Lib.itoa decW
  rw [if_pos (by omega), if_neg (by omega)]
theorem digits_loop (k : List UInt8 → Option (List UInt8)) : ∀ (m n : Nat) (s : List UInt8), n + 1 ≤ m → s.length + n ≤ 4000000 → s ≠ [] → ref03_Digits_loop1 k m s (n : Int) = k (if n = 0 then s else Lib.decDigits n ++ s)
  | 0, n, s, h, _, _ => by omega
  | m + 1, n, s, h, hs, hne => by
    unfold ref03_Digits_loop1
    have hne' : (s == []) = false := by simpa using hne
    rw [hne', Bool.or_false]
    by_cases h0 : n = 0
    · subst h0
      simp
    · rw [if_pos (by rw [decide_eq_true_eq]; omega), tmod_nat, cut_digit ⟨n % 10, by omega⟩, tdiv_nat]
      simp only [Option.bind_some]
      rw [catO_small (by simp; omega), wrap64 (by omega) (by omega)]
      simp only [Option.bind_some]
      rw [digits_loop k m (n / 10) _ (by omega) (by simp; omega) (by simp), if_neg h0]
      by_cases h1 : n / 10 = 0
      · rw [if_pos h1, dec_small (by omega), show n % 10 = n by omega]
      · have hd : Lib.decDigits n = Lib.decDigits (n / 10) ++ [UInt8.ofNat (48 + n % 10)] := dec_big (by omega)
        rw [if_neg h1, hd, List.append_assoc]
theorem digits_eq {n : Int} (h0 : 0 ≤ n) (h : n ≤ 1000000) : ref03_Digits n = some (decW n) := by
  obtain ⟨m, rfl⟩ : ∃ m : Nat, n = (m : Int) := ⟨n.toNat, by omega⟩
  unfold ref03_Digits joinK decW
  dsimp only
  rw [Int.toNat_natCast]
  unfold ref03_Digits_loop1
  rw [if_pos (by simp), tmod_nat, cut_digit ⟨m % 10, by omega⟩, tdiv_nat]
  simp only [Option.bind_some]
  rw [catO_small (by simp), wrap64 (by omega) (by omega)]
  simp only [Option.bind_some]
  rw [digits_loop _ (m + 1) (m / 10) _ (by omega) (by simp; omega) (by simp)]
  by_cases h1 : m / 10 = 0
  · rw [if_pos h1, dec_small (by omega), show m % 10 = m by omega]; rfl
  · have hd : Lib.decDigits m = Lib.decDigits (m / 10) ++ [UInt8.ofNat (48 + m % 10)] := dec_big (by omega)
    rw [if_neg h1, hd]; rfl
theorem wr_len (y : Stroke) : (wr y).length = 2 := rfl
theorem joinS_eq {l : List (List UInt8)} {sep : List UInt8} (h : l.length ≤ 1000000) (h2 : (Lib.join l sep).length ≤ 1000000) : joinS l sep = some (Lib.join l sep) := by
  unfold joinS
  rw [if_pos ⟨by omega, by omega⟩]
theorem join_len (sep : List UInt8) (n : Nat) : ∀ l : List (List UInt8), (∀ t ∈ l, t.length ≤ n) → (Lib.join l sep).length ≤ l.length * (n + sep.length)
  | [], _ => by rw [Lib.join_nil]; simp
  | x :: r, h => by
    have hx := h x (by simp)
    have : ∀ r : List (List UInt8), (∀ t ∈ r, t.length ≤ n) → (Lib.joinTail sep r).length ≤ r.length * (n + sep.length) := by
      intro r
      induction r with
      | nil => intro _; simp [Lib.joinTail]
      | cons y r ih =>
        intro h
        have hy := h y (by simp)
        have ih := ih (fun t ht => h t (by simp [ht]))
        unfold Lib.joinTail at ih ⊢
        rw [List.map_cons, List.flatten_cons, List.length_append, List.length_append, List.length_cons, Nat.add_mul]
        omega
    have := this r (fun t ht => h t (by simp [ht]))
    rw [Lib.join_cons, List.length_append, List.length_cons, Nat.add_mul]
    omega
theorem words_len {x : Step} (g : GoodS x) : (words x).length ≤ 7 ∧ ∀ t ∈ words x, t.length ≤ 7 := by
  have := g.few
  refine ⟨?_, fun t ht => ?_⟩
  · unfold words; split <;> simp <;> omega
  · unfold words at ht
    rcases List.mem_append.1 ht with ht | ht
    · obtain ⟨y, _, rfl⟩ := List.mem_map.1 ht
      rw [wr_len]; omega
    · split at ht
      · rw [List.mem_singleton.1 ht]; exact dec7 (by have := g.w1; omega)
      · simp at ht
theorem line_len {x : Step} (g : GoodS x) : (lineS x).length ≤ 56 := by
  obtain ⟨h1, h2⟩ := words_len g
  have := join_len [32] 7 (words x) h2
  unfold lineS
  simp only [List.length_singleton] at this
  omega
theorem text_len {l : List Step} (h : ∀ x ∈ l, GoodS x) (hl : l.length ≤ 64) : (textL l).length ≤ 4000 := by
  have := join_len [59, 32] 56 (l.map lineS) (fun t ht => by
    obtain ⟨x, hx, rfl⟩ := List.mem_map.1 ht
    exact line_len (h x hx))
  unfold textL
  rw [List.length_map] at this
  simp only [List.length_cons, List.length_nil] at this
  omega
end Go.Proofs.YtbhcojijafbdiaaGreatDoor.W
