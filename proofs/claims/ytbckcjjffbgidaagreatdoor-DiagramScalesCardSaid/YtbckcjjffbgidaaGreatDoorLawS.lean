/- The plain laws of diagrams, sixth part: times; Scales. No program in sight. -/
import Derived.Test.YtbckcjjffbgidaaGreatDoorLawR
set_option linter.unusedVariables false
set_option linter.unusedSimpArgs false
set_option linter.unnecessarySimpa false
set_option maxHeartbeats 2000000
namespace Go.Proofs.YtbckcjjffbgidaaGreatDoor.W
open Go Go.RowKit
theorem fB_enc (s : Sequence) (k i : Nat) : (Utf8.encode (IntKind.wrap .i32 ((fB s k i).toNat : Int))).data.toList = [fB s k i] := by
 unfold fB restB
 split
 · decide +kernel
 · split
   · decide +kernel
   · split <;> decide +kernel
theorem rep_one (b : UInt8) (n : Nat) : Lib.repeatL [b] n = List.replicate n b := by
 induction n with
 | zero => rfl
 | succ n ih => rw [List.replicate_succ, ← ih]; rfl
theorem lst2 (s : Sequence) (R : RightS s) (cs : List Int) (w : Nat → Nat) (hw : ∀ k < s.steps.length, at? cs (k : Int) = some (w k : Int)) (hS : sumW w s.steps.length ≤ 100000) (i : Nat) (hi : i < s.actuators.toNat) (K : List UInt8 → Option (List (List UInt8))) : ∀ (m k : Nat), k + m = s.steps.length →
 diagram_stretched_loop2 cs (colAt s i s.steps.length) K (m + 1) (k : Int) (lineW s i w (fun _ => false) k) = K (lineW s i w (fun _ => false) s.steps.length)
 | 0, k, h => by
  rw [diagram_stretched_loop2, if_neg (by rw [decide_eq_true_eq, colAt_len]; omega), show k = s.steps.length by omega]
 | m + 1, k, h => by
  have hk : k < s.steps.length := by omega
  have hl1 := R.l1
  have ih := lst2 s R cs w hw hS i hi K m (k + 1) (by omega)
  have hlen := line_len16 s i w (fun _ => false) k
  have hsm2 := sum_mono w (show k + 1 ≤ s.steps.length by omega)
  rw [sumW] at hsm2
  have hrep : repS [fB s k i] (w k : Int) = some (List.replicate (w k) (fB s k i)) := by
   unfold repS
   rw [if_pos ⟨by omega, by omega, by simp; omega⟩, Int.toNat_natCast, rep_one]
  obtain ⟨g2, b2⟩ := byte_back (sB s k i)
  rw [diagram_stretched_loop2, if_pos (by rw [decide_eq_true_eq, colAt_len]; omega), col_at R hk hi, Option.bind_some, hw k hk, Option.bind_some]
  unfold guardO
  dsimp only
  rw [fB_enc, hrep, Option.bind_some, appO_ok (by simp; omega) (by decide), Option.bind_some, if_pos g2, Option.bind_some, b2, appO_ok (by simp; omega) (by decide), Option.bind_some, wrapN k (by omega), ← ih, lineW_succ]
  congr 1
  simp [blk]
theorem lst1 (s : Sequence) (R : RightS s) (cs : List Int) (w : Nat → Nat) (hw : ∀ k < s.steps.length, at? cs (k : Int) = some (w k : Int)) (hS : sumW w s.steps.length ≤ 100000) (K : List (List UInt8) → Option (List (List UInt8))) : ∀ (m i : Nat), i + m = s.actuators.toNat →
 diagram_stretched_loop1 K (cellsS s) cs (m + 1) (i : Int) (linesW s w (fun _ => false) i) = K (linesW s w (fun _ => false) s.actuators.toNat)
 | 0, i, h => by
  rw [diagram_stretched_loop1, if_neg (by rw [decide_eq_true_eq, cellsS_len]; omega), show i = s.actuators.toNat by omega]
 | m + 1, i, h => by
  have hi : i < s.actuators.toNat := by omega
  have n1 := R.n1
  have ih := lst1 s R cs w hw hS K m (i + 1) (by omega)
  rw [diagram_stretched_loop1, if_pos (by rw [decide_eq_true_eq, cellsS_len]; omega)]
  unfold joinK
  dsimp only
  rw [cells_at hi, Option.bind_some, letter_eq (by omega), Option.bind_some, catO_small (by simp), Option.bind_some, appO_ok (by simp) (by decide), Option.bind_some, fuel0, colAt_len]
  refine Eq.trans (lst2 s R cs w hw hS i hi _ s.steps.length 0 (by omega)) ?_
  rw [appO_ok (by simp [linesW_len]; omega) (by decide), Option.bind_some, wrapN i (by omega), ← ih, linesW_succ]
theorem lst_eq (s : Sequence) (R : RightS s) (cs : List Int) (w : Nat → Nat) (hw : ∀ k < s.steps.length, at? cs (k : Int) = some (w k : Int)) (hS : sumW w s.steps.length ≤ 100000) : diagram_stretched s cs = some (linesW s w (fun _ => false) s.actuators.toNat) := by
 unfold diagram_stretched joinK
 dsimp only
 rw [cells_eq s R, Option.bind_some, fuel0, cellsS_len]
 exact lst1 s R cs w hw hS _ s.actuators.toNat 0 (by omega)
/-! ### widths -/
def wdI (unit t : Int) : Int := if Int.tdiv (t + unit - 1) unit > 1 then Int.tdiv (t + unit - 1) unit else 1
def badT (t : Int) : Bool := (decide (t < 0)) || (decide (t > 1000000))
theorem wd_q {unit t : Int} (h0 : 0 ≤ t) (h1 : t ≤ 1000000) (u0 : 1 ≤ unit) (u1 : unit ≤ 1000000) : IntKind.wrap .i64 (Int.tdiv (IntKind.wrap .i64 ((IntKind.wrap .i64 (t + unit)) - 1)) unit) = Int.tdiv (t + unit - 1) unit ∧ 0 ≤ Int.tdiv (t + unit - 1) unit ∧ Int.tdiv (t + unit - 1) unit ≤ 2000000 := by
 have e : Int.tdiv (t + unit - 1) unit = (t + unit - 1) / unit := Int.tdiv_eq_ediv_of_nonneg (by omega)
 have hq0 : 0 ≤ (t + unit - 1) / unit := Int.ediv_nonneg (by omega) (by omega)
 have hq1 : (t + unit - 1) / unit ≤ t + unit - 1 := Int.ediv_le_self _ (by omega)
 rw [wrap64 (x := t + unit) (by omega) (by omega), wrap64 (x := t + unit - 1) (by omega) (by omega), e, wrap64 (by omega) (by omega)]
 exact ⟨rfl, hq0, by omega⟩
theorem wd_pos {unit t : Int} (h0 : 0 ≤ t) (h1 : t ≤ 1000000) (u0 : 1 ≤ unit) (u1 : unit ≤ 1000000) : 1 ≤ wdI unit t ∧ wdI unit t ≤ 2000000 := by
 obtain ⟨_, a, b⟩ := wd_q h0 h1 u0 u1
 unfold wdI
 split <;> omega
def wsum (l : List Int) : Int := (l.map fun x => x + 1).sum
theorem wsum_snoc (l : List Int) (x : Int) : wsum (l ++ [x]) = wsum l + (x + 1) := by simp [wsum]
theorem wsum_app (a b : List Int) : wsum (a ++ b) = wsum a + wsum b := by simp [wsum]
theorem wsum_le : ∀ l : List Int, (∀ x ∈ l, 1 ≤ x ∧ x ≤ 2000000) → 0 ≤ wsum l ∧ wsum l ≤ 3000000 * l.length
 | [], _ => by simp [wsum]
 | x :: l, h => by
  have h1 := wsum_le l (fun y hy => h y (by simp [hy]))
  have h2 := h x (by simp)
  have : wsum (x :: l) = (x + 1) + wsum l := by simp [wsum]
  rw [this, List.length_cons]
  omega
theorem lsc1 (times : List Int) (hl : times.length ≤ 100000) (K : Bool → Option (List (List UInt8) × Int)) (K2 : Option (List (List UInt8) × Int)) (unit : Int) : ∀ (r pre : List Int), times = pre ++ r →
 diagram_Scale_loop1 times K K2 unit (r.length + 1) (pre.length : Int) = if r.any badT = true then K true else K2
 | [], pre, e => by
  rw [diagram_Scale_loop1, end_mid e, if_neg (by simp), if_neg (by simp)]
 | y :: r, pre, e => by
  obtain ⟨h1, h2, h3, h4, h5⟩ := step_mid e (by omega)
  have ih := lsc1 times hl K K2 unit r (pre ++ [y]) h4
  rw [diagram_Scale_loop1, h1, if_pos rfl, h2, Option.bind_some, h3, List.length_cons, ih, List.any_cons]
  show (if badT y = true then _ else _) = _
  cases badT y
  · rfl
  · rw [if_pos rfl, decide_eq_true (by omega : (pre.length : Int) ≥ 0)]
    rfl
theorem lsc2 (times : List Int) (hl : times.length ≤ 100000) (unit : Int) (u0 : 1 ≤ unit) (u1 : unit ≤ 1000000) (ht : ∀ x ∈ times, 0 ≤ x ∧ x ≤ 1000000) (K : Int → List Int → Option (List (List UInt8) × Int)) : ∀ (r pre : List Int), times = pre ++ r →
 diagram_Scale_loop2 times unit K (r.length + 1) (3 + wsum (pre.map (wdI unit))) (pre.length : Int) (pre.map (wdI unit)) = K (3 + wsum (times.map (wdI unit))) (times.map (wdI unit))
 | [], pre, e => by
  rw [diagram_Scale_loop2, end_mid e, if_neg (by simp), e, List.append_nil]
 | y :: r, pre, e => by
  obtain ⟨h1, h2, h3, h4, h5⟩ := step_mid e (by omega)
  have ih := lsc2 times hl unit u0 u1 ht K r (pre ++ [y]) h4
  obtain ⟨y0, y1⟩ := ht y (by rw [e]; simp)
  obtain ⟨q0, q1, q2⟩ := wd_q y0 y1 u0 u1
  obtain ⟨p0, p1⟩ := wd_pos y0 y1 u0 u1
  obtain ⟨z0, z1⟩ := wsum_le (pre.map (wdI unit)) (fun x hx => by
   obtain ⟨t, h1, rfl⟩ := List.mem_map.1 hx
   obtain ⟨t0, t1⟩ := ht t (by rw [e]; simp [h1])
   exact wd_pos t0 t1 u0 u1)
  rw [List.length_map] at z1
  rw [diagram_Scale_loop2, h1, if_pos rfl, h2, Option.bind_some, q0, h3, List.length_cons, ← ih]
  unfold guardO
  rw [if_pos (by simp; omega), Option.bind_some]
  show (appO 8 _ [wdI unit y]).bind _ = _
  rw [appO_ok (by simp; omega) (by decide), Option.bind_some]
  show diagram_Scale_loop2 times unit K (r.length + 1) (IntKind.wrap .i64 (3 + wsum (pre.map (wdI unit)) + IntKind.wrap .i64 (wdI unit y + 1))) _ (pre.map (wdI unit) ++ [wdI unit y]) = _
  rw [wrap64 (x := wdI unit y + 1) (by omega) (by omega), wrap64 (by omega) (by omega), List.map_append]
  show _ = diagram_Scale_loop2 times unit K (r.length + 1) (3 + wsum (pre.map (wdI unit) ++ [wdI unit y])) _ (pre.map (wdI unit) ++ [wdI unit y])
  rw [wsum_snoc, Int.add_assoc]
theorem rwd_loop (times : List Int) (hl : times.length ≤ 100000) (unit : Int) (u0 : 1 ≤ unit) (u1 : unit ≤ 1000000) (ht : ∀ x ∈ times, 0 ≤ x ∧ x ≤ 1000000) (K : List Int → Option (List Int)) : ∀ (r pre : List Int), times = pre ++ r →
 ref16_Widths_loop1 times unit K (r.length + 1) (pre.length : Int) (pre.map (wdI unit)) = K (times.map (wdI unit))
 | [], pre, e => by
  rw [ref16_Widths_loop1, end_mid e, if_neg (by simp), e, List.append_nil]
 | y :: r, pre, e => by
  obtain ⟨h1, h2, h3, h4, h5⟩ := step_mid e (by omega)
  have ih := rwd_loop times hl unit u0 u1 ht K r (pre ++ [y]) h4
  obtain ⟨y0, y1⟩ := ht y (by rw [e]; simp)
  obtain ⟨q0, q1, q2⟩ := wd_q y0 y1 u0 u1
  have ew : (if (1 : Int) > Int.tdiv (y + unit - 1) unit then 1 else Int.tdiv (y + unit - 1) unit) = wdI unit y := by
   unfold wdI
   split <;> split <;> omega
  rw [ref16_Widths_loop1, h1, if_pos rfl, h2, Option.bind_some, q0, ew, h3, List.length_cons, ← ih]
  unfold guardO
  rw [if_pos (by simp; omega), Option.bind_some, appO_ok (by simp; omega) (by decide), Option.bind_some, List.map_append]
  rfl
theorem rwd_eq (times : List Int) (hl : times.length ≤ 100000) (unit : Int) (u0 : 1 ≤ unit) (u1 : unit ≤ 1000000) (ht : ∀ x ∈ times, 0 ≤ x ∧ x ≤ 1000000) : ref16_Widths times unit = some (times.map (wdI unit)) := by
 unfold ref16_Widths joinK
 dsimp only
 rw [fuel0]
 exact rwd_loop times hl unit u0 u1 ht _ times [] rfl
theorem rsc1 (times : List Int) (hl : times.length ≤ 100000) (K : Option (List (List UInt8) × Int)) : ∀ (r pre : List Int), times = pre ++ r →
 ref16_Scale_loop1 times K (r.length + 1) (pre.length : Int) = if r.any badT = true then some ([], 2) else K
 | [], pre, e => by
  rw [ref16_Scale_loop1, end_mid e, if_neg (by simp), if_neg (by simp)]
 | y :: r, pre, e => by
  obtain ⟨h1, h2, h3, h4, h5⟩ := step_mid e (by omega)
  have ih := rsc1 times hl K r (pre ++ [y]) h4
  have eb : (if decide (y < 0) = true then some true else some (decide (y > 1000000))) = some (badT y) := by
   unfold badT
   cases decide (y < 0) <;> rfl
  rw [ref16_Scale_loop1, h1, if_pos rfl, h2, Option.bind_some, Option.bind_some, eb, Option.bind_some, h3, List.length_cons, ih, List.any_cons]
  cases badT y <;> rfl
theorem rsc2 (ws : List Int) (hl : ws.length ≤ 100000) (hw : ∀ x ∈ ws, 1 ≤ x ∧ x ≤ 2000000) (K : Int → Option (List (List UInt8) × Int)) : ∀ (r pre : List Int), ws = pre ++ r →
 ref16_Scale_loop2 ws K (r.length + 1) (3 + wsum pre) (pre.length : Int) = K (3 + wsum ws)
 | [], pre, e => by
  rw [ref16_Scale_loop2, end_mid e, if_neg (by simp), e, List.append_nil]
 | y :: r, pre, e => by
  obtain ⟨h1, h2, h3, h4, h5⟩ := step_mid e (by omega)
  have ih := rsc2 ws hl hw K r (pre ++ [y]) h4
  have hy := hw y (by rw [e]; simp)
  obtain ⟨z0, z1⟩ := wsum_le pre (fun x hx => hw x (by rw [e]; simp [hx]))
  rw [ref16_Scale_loop2, h1, if_pos rfl, h2, Option.bind_some, h3, List.length_cons, ← ih, wsum_snoc, wrap64 (x := y + 1) (by omega) (by omega), wrap64 (by omega) (by omega), Int.add_assoc]
def wAt (ws : List Int) (k : Nat) : Nat := (ws[k]?.getD 0).toNat
theorem wAt_at {ws : List Int} (hw : ∀ x ∈ ws, 0 ≤ x) {k : Nat} (h : k < ws.length) : at? ws (k : Int) = some (wAt ws k : Int) := by
 have := hw ws[k] (List.getElem_mem h)
 rw [at_nat h, wAt, List.getElem?_eq_getElem h]
 simp
 omega
theorem sum_wAt : ∀ (ws : List Int), (∀ x ∈ ws, 1 ≤ x) → ∀ k ≤ ws.length, (sumW (wAt ws) k : Int) + k ≤ wsum ws
 | ws, hw, 0, _ => by
  simp only [sumW]
  have : ∀ l : List Int, (∀ x ∈ l, 1 ≤ x) → 0 ≤ wsum l := fun l => by
   induction l with
   | nil => simp [wsum]
   | cons x l ih =>
    intro h
    have h1 := ih (fun y hy => h y (by simp [hy]))
    have h2 := h x (by simp)
    have : wsum (x :: l) = (x + 1) + wsum l := by simp [wsum]
    omega
  have := this ws hw
  omega
 | ws, hw, k + 1, hk => by
  have e : ws = ws.take k ++ ws[k] :: ws.drop (k + 1) := by rw [← List.drop_eq_getElem_cons (by omega), List.take_append_drop]
  have hlt : k < ws.length := by omega
  have h1 := hw ws[k] (List.getElem_mem hlt)
  have key : ∀ (k : Nat), k ≤ ws.length → (sumW (wAt ws) k : Int) + k = wsum (ws.take k) := fun k => by
   induction k with
   | zero => intro _; simp [sumW, wsum]
   | succ k ih =>
    intro hk
    have hlt : k < ws.length := by omega
    have h1 := hw ws[k] (List.getElem_mem hlt)
    have h2 := ih (by omega)
    rw [List.take_succ_eq_append_getElem hlt, wsum_snoc, sumW, ← h2, wAt, List.getElem?_eq_getElem hlt]
    simp
    omega
  have h3 := key (k + 1) hk
  have h4 : wsum ws = wsum (ws.take (k + 1)) + wsum (ws.drop (k + 1)) := by
   have := wsum_app (ws.take (k + 1)) (ws.drop (k + 1))
   rw [List.take_append_drop] at this
   exact this
  have h5 : ∀ l : List Int, (∀ x ∈ l, 1 ≤ x) → 0 ≤ wsum l := fun l => by
   induction l with
   | nil => simp [wsum]
   | cons x l ih =>
    intro h
    have h1 := ih (fun y hy => h y (by simp [hy]))
    have h2 := h x (by simp)
    have : wsum (x :: l) = (x + 1) + wsum l := by simp [wsum]
    omega
  have h6 := h5 (ws.drop (k + 1)) (fun x hx => hw x (List.mem_of_mem_drop hx))
  omega
def badU (times : List Int) (unit : Int) : Bool := times.any badT || ((decide (unit < 1)) || (decide (unit > 1000000)))
def scaleR (s : Sequence) (times : List Int) (unit : Int) : List (List UInt8) × Int :=
 if checkE s ≠ 0 then ([], checkE s) else if times.length ≠ s.steps.length then ([], 8) else if badU times unit = true then ([], 2)
 else if 3 + wsum (times.map (wdI unit)) > 4096 then ([], 17) else (linesW s (wAt (times.map (wdI unit))) (fun _ => false) s.actuators.toNat, 0)
theorem bad_no {times : List Int} {unit : Int} (h : badU times unit = false) : (∀ x ∈ times, 0 ≤ x ∧ x ≤ 1000000) ∧ 1 ≤ unit ∧ unit ≤ 1000000 := by
 unfold badU at h
 simp only [Bool.or_eq_false_iff, decide_eq_false_iff_not, List.any_eq_false, badT, Bool.or_eq_true, decide_eq_true_eq] at h
 refine ⟨fun x hx => ?_, by omega, by omega⟩
 have := h.1 x hx
 omega
theorem wds_ok {times : List Int} {unit : Int} (ht : ∀ x ∈ times, 0 ≤ x ∧ x ≤ 1000000) (u0 : 1 ≤ unit) (u1 : unit ≤ 1000000) : ∀ x ∈ times.map (wdI unit), 1 ≤ x ∧ x ≤ 2000000 := fun x hx => by
 obtain ⟨t, h1, rfl⟩ := List.mem_map.1 hx
 exact wd_pos (ht t h1).1 (ht t h1).2 u0 u1
theorem lscale_eq (s : Sequence) (times : List Int) (unit : Int) : diagram_Scale s times unit = some (scaleR s times unit) := by
 unfold diagram_Scale scaleR
 rw [lcheck14, Option.bind_some]
 by_cases h : checkE s = 0
 · have R := checkE_zero h
   have hl1 := R.l1
   rw [if_neg (by simpa using h), if_neg (fun q : checkE s ≠ 0 => q h)]
   by_cases hl : times.length = s.steps.length
   · rw [if_neg (by simp; omega), if_neg (fun q : times.length ≠ s.steps.length => q hl)]
     unfold joinK
     dsimp only
     rw [fuel0]
     refine Eq.trans (lsc1 times (by omega) _ _ unit times [] rfl) ?_
     have e0 : ((decide (((-1) : Int) ≥ 0) || decide (unit < 1)) || decide (unit > 1000000)) = (decide (unit < 1) || decide (unit > 1000000)) := by
      rw [decide_eq_false (by decide : ¬ ((-1) : Int) ≥ 0)]; rfl
     cases hb : badU times unit
     · obtain ⟨ht, u0, u1⟩ := bad_no hb
       have h1 : times.any badT = false := by unfold badU at hb; exact (Bool.or_eq_false_iff.1 hb).1
       have h2 : (decide (unit < 1) || decide (unit > 1000000)) = false := by unfold badU at hb; exact (Bool.or_eq_false_iff.1 hb).2
       rw [if_neg (by rw [h1]; decide), e0, h2, if_neg (by decide), if_neg (by decide)]
       have hq := wds_ok ht u0 u1
       refine Eq.trans (lsc2 times (by omega) unit u0 u1 ht _ times [] rfl) ?_
       by_cases hs : 3 + wsum (times.map (wdI unit)) > 4096
       · rw [if_pos (by simpa using hs), if_pos hs]
       · have hsw := sum_wAt (times.map (wdI unit)) (fun x hx => (hq x hx).1) s.steps.length (by rw [List.length_map]; omega)
         rw [if_neg (by simpa using hs), if_neg hs, lst_eq s R _ (wAt (times.map (wdI unit))) (fun k hk => wAt_at (fun x hx => by have := (hq x hx).1; omega) (by rw [List.length_map]; omega)) (by omega), Option.bind_some]
     · by_cases h1 : times.any badT = true
       · rw [if_pos h1, if_pos rfl, if_pos rfl]
       · have h2 : (decide (unit < 1) || decide (unit > 1000000)) = true := by
          unfold badU at hb
          rcases Bool.or_eq_true_iff.1 hb with q | q
          · exact absurd q h1
          · exact q
         rw [if_neg h1, e0, h2, if_pos rfl, if_pos rfl]
   · rw [if_pos (by simp; omega), if_pos hl]
 · rw [if_pos (by simpa using h), if_pos h]
theorem rscale_eq (s : Sequence) (times : List Int) (unit : Int) : ref16_Scale s times unit = some (scaleR s times unit) := by
 unfold ref16_Scale scaleR
 rw [rcheck14, Option.bind_some]
 by_cases h : checkE s = 0
 · have R := checkE_zero h
   have hl1 := R.l1
   rw [if_neg (by simpa using h), if_neg (fun q : checkE s ≠ 0 => q h)]
   by_cases hl : times.length = s.steps.length
   · rw [if_neg (by simp; omega), if_neg (fun q : times.length ≠ s.steps.length => q hl)]
     unfold joinK
     dsimp only
     rw [fuel0]
     refine Eq.trans (rsc1 times (by omega) _ times [] rfl) ?_
     cases hb : badU times unit
     · obtain ⟨ht, u0, u1⟩ := bad_no hb
       have h1 : times.any badT = false := by unfold badU at hb; exact (Bool.or_eq_false_iff.1 hb).1
       have h2 : (decide (unit < 1) || decide (unit > 1000000)) = false := by unfold badU at hb; exact (Bool.or_eq_false_iff.1 hb).2
       have hq := wds_ok ht u0 u1
       rw [if_neg (by rw [h1]; decide), h2, if_neg (by decide), if_neg (by decide), rwd_eq times (by omega) unit u0 u1 ht, Option.bind_some, fuel0]
       refine Eq.trans (rsc2 (times.map (wdI unit)) (by rw [List.length_map]; omega) hq _ (times.map (wdI unit)) [] rfl) ?_
       by_cases hs : 3 + wsum (times.map (wdI unit)) > 4096
       · rw [if_pos (by simpa using hs), if_pos hs]
       · have hsw := sum_wAt (times.map (wdI unit)) (fun x hx => (hq x hx).1) s.steps.length (by rw [List.length_map]; omega)
         have e := rdrawn_eq s R (times.map (wdI unit)) [] (wAt (times.map (wdI unit))) (fun k hk => ⟨wAt_at (fun x hx => by have := (hq x hx).1; omega) (by rw [List.length_map]; omega), by
          have := sum_mono (wAt (times.map (wdI unit))) (show k + 1 ≤ s.steps.length by omega)
          rw [sumW] at this
          omega⟩) (by omega) (by simp)
         rw [if_neg (by simpa using hs), if_neg hs, e, Option.bind_some, mkOf_nil]
     · by_cases h1 : times.any badT = true
       · rw [if_pos h1, if_pos rfl]
       · have h2 : (decide (unit < 1) || decide (unit > 1000000)) = true := by
          unfold badU at hb
          rcases Bool.or_eq_true_iff.1 hb with q | q
          · exact absurd q h1
          · exact q
         rw [if_neg h1, h2, if_pos rfl, if_pos rfl]
   · rw [if_pos (by simp; omega), if_pos hl]
 · rw [if_pos (by simpa using h), if_pos h]
theorem scaleR_len (s : Sequence) (times : List Int) (unit : Int) : (scaleR s times unit).1.length ≤ 6 := by
 unfold scaleR
 split
 · simp
 · rename_i h
   have := (checkE_zero (Decidable.not_not.1 h)).n1
   split
   · simp
   · split
     · simp
     · split
       · simp
       · rw [linesW_len]; omega
theorem short_loop (times : List Int) (hl : times.length ≤ 100000) (unit : Int) (u0 : unit ≠ 0) (K : Int → Option Bool) (hK : ∀ i, ∃ b, K i = some b) : ∀ (r pre : List Int) (i : Int), times = pre ++ r → ∃ b, law16_short_loop1 times unit K (r.length + 1) i (pre.length : Int) = some b
 | [], pre, i, e => by
  rw [law16_short_loop1, end_mid e, if_neg (by simp)]
  exact hK i
 | y :: r, pre, i, e => by
  obtain ⟨h1, h2, h3, h4, h5⟩ := step_mid e (by omega)
  rw [law16_short_loop1, h1, if_pos rfl, h2, Option.bind_some, h3, List.length_cons]
  by_cases hb : (decide (y < 0) || decide (y > 1000000)) = true
  · rw [if_pos hb]; exact ⟨true, rfl⟩
  · rw [if_neg hb]
    unfold guardO
    rw [if_pos (by simpa using u0), Option.bind_some]
    exact short_loop times hl unit u0 K hK r (pre ++ [y]) _ h4
theorem short_some (times : List Int) (hl : times.length ≤ 100000) (unit : Int) : ∃ b, law16_short times unit = some b := by
 unfold law16_short
 by_cases h : unit < 1
 · rw [if_pos (by simpa using h)]; exact ⟨true, rfl⟩
 · rw [if_neg (by simpa using h)]
   unfold joinK
   dsimp only
   rw [fuel0]
   exact short_loop times hl unit (by omega) _ (fun i => ⟨_, rfl⟩) times [] 0 rfl
theorem law_DiagramScales (s : Sequence) (times : List Int) (unit : Int) : law16_DiagramScales s times unit = some true := by
 obtain ⟨b, hb⟩ := few16 s
 unfold law16_DiagramScales
 rw [hb, Option.bind_some, awake16]
 by_cases hl : times.length ≤ 100
 · cases b
   · rfl
   · obtain ⟨c, hc⟩ := short_some times (by omega) unit
     rw [if_neg (by simp; omega), hc, Option.bind_some, Option.bind_some]
     cases c
     · rfl
     · have e1 := eqT_eq (scaleR s times unit).1 (by have := scaleR_len s times unit; omega)
       rw [if_neg (by decide), lscale_eq, rscale_eq]
       simp [e1]
 · rw [if_pos (by simp; omega), Option.bind_some, if_pos rfl]
   rfl
end Go.Proofs.YtbckcjjffbgidaaGreatDoor.W
