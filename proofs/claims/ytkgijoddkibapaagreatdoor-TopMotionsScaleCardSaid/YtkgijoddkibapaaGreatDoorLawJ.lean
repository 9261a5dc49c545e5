import Derived.Test.YtkgijoddkibapaaGreatDoorPlain
import Derived.Test.YtkgijoddkibapaaGreatDoorLibN
import Derived.Lib.Join
import Derived.Lib.SplitLaws
set_option linter.unusedVariables false
set_option linter.unusedSimpArgs false
set_option maxHeartbeats 2000000
namespace Go.Proofs.YtkgijoddkibapaaGreatDoor.W
open Go Go.RowKit
theorem wrap64 {x : Int} (h : -9223372036854775808 ≤ x) (k : x ≤ 9223372036854775807) : IntKind.wrap .i64 x = x := by
 unfold IntKind.wrap
 simp [IntKind.bits, IntKind.signed]
 split <;> omega
theorem maxLen_eq : maxLen = 9223372036854775807 := by decide
section
variable {α : Type} {x : α} {pre r l : List α}
theorem at?_mid : at? (pre ++ x :: r) (pre.length : Int) = some x := by
 unfold at?
 rw [if_pos (by omega)]
 simp
theorem lt_mid : decide ((pre.length : Int) < ((pre ++ x :: r).length : Int)) = true := by
 simp only [List.length_append, List.length_cons, decide_eq_true_eq]
 omega
theorem ge_end : decide ((pre.length : Int) < ((pre ++ ([] : List α)).length : Int)) = false := by
 simp
theorem wrap_mid (h : (pre ++ x :: r).length ≤ 4611686018427387904) : IntKind.wrap .i64 ((pre.length : Int) + 1) = ((pre ++ [x]).length : Int) := by
 simp only [List.length_append, List.length_cons, List.length_nil] at h ⊢
 rw [wrap64 (by omega) (by omega)]
 omega
theorem mid_cons : pre ++ x :: r = (pre ++ [x]) ++ r := by simp
theorem fuel0 : Int.toNat ((l.length : Int) - 0) + 1 = l.length + 1 := by simp
theorem appO_ok {b : Nat} {l r : List α} (h : (l.length + r.length) * b ≤ 140737488355328) (h0 : 0 < b) : appO b l r = some (l ++ r) := by
 unfold appO
 have h1 : l.length + r.length ≤ (l.length + r.length) * b := Nat.le_mul_of_pos_right _ h0
 rw [if_pos ⟨h, by rw [maxLen_eq]; omega⟩]
end
theorem catO_small {s t : List UInt8} (h : s.length + t.length ≤ 1000000000) : catO s t = some (s ++ t) := by
 unfold catO
 rw [if_pos (Nat.le_trans h (by decide))]
theorem at?_last {α : Type} {pre r : List α} (h : pre ≠ []) (hb : pre.length ≤ 4611686018427387904) : at? (pre ++ r) (IntKind.wrap .i64 ((pre.length : Int) - 1)) = pre.getLast? := by
 have hp : 0 < pre.length := List.length_pos_iff.2 h
 rw [wrap64 (by omega) (by omega)]
 unfold at?
 rw [if_pos (by omega), List.getLast?_eq_getElem?]
 have e : ((pre.length : Int) - 1).toNat = pre.length - 1 := by omega
 rw [e, List.getElem?_append_left (by omega)]
def chkS (wait : Int) (last : Int) : List Stroke → Int
 | [] => if wait < 0 ∨ wait > 1000000 then 2 else 0
 | y :: r => if ¬ (0 ≤ y.actuator ∧ y.actuator < 6) then 2 else if y.actuator = last then 7 else if y.actuator < last then 9 else chkS wait y.actuator r
def chk (x : Step) : Int := if x.strokes.length = 0 then 13 else if 6 < x.strokes.length then 5 else chkS x.wait (-1) x.strokes
theorem known_eq (n : Int) : stroke_known n = some (decide (0 ≤ n ∧ n < 6)) ∧ ref13_Actuator n = some (decide (0 ≤ n ∧ n < 6)) := by
 unfold stroke_known ref13_Actuator
 have : (decide (n ≥ 0) && decide (n < 6)) = decide (0 ≤ n ∧ n < 6) := by
  rw [Bool.eq_iff_iff, Bool.and_eq_true, decide_eq_true_eq, decide_eq_true_eq, decide_eq_true_eq]
 rw [this]
 exact ⟨rfl, rfl⟩
theorem lchk_loop (x : Step) (hl : x.strokes.length ≤ 100) : ∀ (r pre : List Stroke) (last : Int), x.strokes = pre ++ r → stroke_CheckStep_loop1 x (if ((decide (x.wait < 0)) || (decide (x.wait > 1000000))) = true then some 2 else some 0) (r.length + 1) last (pre.length : Int) = some (chkS x.wait last r)
 | [], pre, last, e => by
  unfold stroke_CheckStep_loop1
  rw [e, ge_end, chkS]
  by_cases h : x.wait < 0 ∨ x.wait > 1000000
  · rw [if_pos h]; simp [h]
  · rw [if_neg h]; simp [h]
 | y :: r, pre, last, e => by
  have ih := lchk_loop x hl r (pre ++ [y]) y.actuator (by rw [e, mid_cons])
  unfold stroke_CheckStep_loop1
  rw [e, lt_mid, if_pos rfl, at?_mid, Option.bind_some, (known_eq _).1, Option.bind_some, wrap_mid (x := y) (r := r) (by rw [← e]; omega), chkS]
  rw [List.length_cons, ih]
  simp only [Bool.not_eq_true', decide_eq_false_iff_not, beq_iff_eq, decide_eq_true_eq]
  repeat' split
  all_goals first | rfl | (exfalso; omega)
theorem lchk_eq (x : Step) : stroke_CheckStep x = some (chk x) := by
 unfold stroke_CheckStep chk
 by_cases h0 : x.strokes.length = 0
 · rw [if_pos (by simp [h0]), if_pos h0]
 · rw [if_neg (by simpa using h0), if_neg h0]
   by_cases h6 : 6 < x.strokes.length
   · rw [if_pos (by rw [decide_eq_true_eq]; omega), if_pos h6]
   · rw [if_neg (by rw [decide_eq_true_eq]; omega), if_neg h6]
     unfold joinK
     dsimp only
     rw [fuel0]
     exact lchk_loop x (by omega) x.strokes [] (-1) rfl
def prevA (pre : List Stroke) : Int := match pre.getLast? with | none => -1 | some z => z.actuator
theorem prevA_nil : prevA [] = -1 := rfl
theorem prevA_snoc (pre : List Stroke) (y : Stroke) : prevA (pre ++ [y]) = y.actuator := by unfold prevA; simp
theorem prevA_of {pre : List Stroke} {z : Stroke} (h : pre.getLast? = some z) : prevA pre = z.actuator := by unfold prevA; rw [h]
theorem rchk_loop (x : Step) (hl : x.strokes.length ≤ 100) : ∀ (r pre : List Stroke), x.strokes = pre ++ r → (∀ z ∈ pre, 0 ≤ z.actuator) → ref13_CheckStep_loop1 x ((ref03_Time x.wait).bind fun r2 => if (!r2) = true then some 2 else some 0) (r.length + 1) (pre.length : Int) = some (chkS x.wait (prevA pre) r)
 | [], pre, e, _ => by
  unfold ref13_CheckStep_loop1 ref03_Time
  rw [e, ge_end, chkS]
  by_cases h : x.wait < 0 ∨ x.wait > 1000000
  · rw [if_pos h]
    have : ¬ (0 ≤ x.wait ∧ x.wait ≤ 1000000) := by omega
    simp
    omega
  · rw [if_neg h]
    simp
    omega
 | y :: r, pre, e, hp => by
  have hlen : x.strokes.length = pre.length + (r.length + 1) := by rw [e]; simp
  have hat : at? x.strokes (pre.length : Int) = some y := by rw [e]; exact at?_mid
  unfold ref13_CheckStep_loop1
  rw [if_pos (by rw [decide_eq_true_eq]; omega), hat]
  simp only [Option.bind_some]
  rw [(known_eq _).2, Option.bind_some, chkS, wrap64 (x := (pre.length : Int) + 1) (by omega) (by omega)]
  by_cases h1 : 0 ≤ y.actuator ∧ y.actuator < 6
  · have ih := rchk_loop x hl r (pre ++ [y]) (by rw [e, mid_cons]) (fun z hz => by
     rcases List.mem_append.1 hz with hz | hz
     · exact hp z hz
     · rw [List.mem_singleton.1 hz]; exact h1.1)
    have e2 : (((pre ++ [y]).length : Nat) : Int) = (pre.length : Int) + 1 := by simp
    rw [e2, prevA_snoc] at ih
    rw [List.length_cons, ih]
    by_cases hpe : pre = []
    · subst hpe
      have c0 : decide ((([] : List Stroke).length : Int) > 0) = false := by simp
      rw [c0, prevA_nil]
      simp only [Bool.false_eq_true, if_false, Option.bind_some, Bool.not_eq_true', decide_eq_false_iff_not]
      have hneg : ¬ y.actuator = -1 ∧ ¬ y.actuator < -1 := by omega
      rw [if_neg hneg.1, if_neg hneg.2]
      repeat' split
      all_goals first | rfl | (exfalso; omega)
    · obtain ⟨z, hz⟩ : ∃ z, pre.getLast? = some z := ⟨pre.getLast hpe, List.getLast?_eq_some_getLast hpe⟩
      have hpos : 0 < pre.length := List.length_pos_iff.2 hpe
      have hprev : at? x.strokes (IntKind.wrap .i64 ((pre.length : Int) - 1)) = some z := by rw [e, at?_last hpe (by omega), hz]
      have c1 : decide ((pre.length : Int) > 0) = true := decide_eq_true (by omega)
      rw [c1, hprev, prevA_of hz]
      simp only [if_true, Option.bind_some, Bool.not_eq_true', decide_eq_false_iff_not, beq_iff_eq, decide_eq_true_eq]
      repeat' split
      all_goals first | rfl | (exfalso; omega)
  · rw [decide_eq_false h1]
    simp [h1]
theorem rchk_eq (x : Step) : ref13_CheckStep x = some (chk x) := by
 unfold ref13_CheckStep chk
 by_cases h0 : x.strokes.length = 0
 · rw [if_pos (by simp [h0]), if_pos h0]
 · rw [if_neg (by simpa using h0), if_neg h0]
   by_cases h6 : 6 < x.strokes.length
   · rw [if_pos (by rw [decide_eq_true_eq]; omega), if_pos h6]
   · rw [if_neg (by rw [decide_eq_true_eq]; omega), if_neg h6]
     unfold joinK
     dsimp only
     rw [fuel0]
     exact rchk_loop x (by omega) x.strokes [] rfl (by simp)
def Asc (last : Int) : List Stroke → Prop
 | [] => True
 | y :: r => 0 ≤ y.actuator ∧ y.actuator < 6 ∧ last < y.actuator ∧ Asc y.actuator r
structure GoodS (x : Step) : Prop where
 ne : x.strokes ≠ []
 few : x.strokes.length ≤ 6
 asc : Asc (-1) x.strokes
 w0 : 0 ≤ x.wait
 w1 : x.wait ≤ 1000000
theorem chkS_zero {w : Int} : ∀ {r : List Stroke} {last : Int}, chkS w last r = 0 ↔ Asc last r ∧ 0 ≤ w ∧ w ≤ 1000000
 | [], last => by
  rw [chkS, Asc]
  split
  · simp; omega
  · simp; omega
 | y :: r, last => by
  rw [chkS, Asc]
  split
  · rename_i h; simp; omega
  · rename_i h1
    split
    · rename_i h; simp; omega
    · rename_i h2
      split
      · rename_i h; simp; omega
      · rename_i h3
        rw [chkS_zero]
        have : 0 ≤ y.actuator ∧ y.actuator < 6 := Decidable.not_not.1 h1
        constructor
        · rintro ⟨a, b⟩; exact ⟨⟨this.1, this.2, by omega, a⟩, b⟩
        · rintro ⟨⟨_, _, _, a⟩, b⟩; exact ⟨a, b⟩
theorem chk_zero {x : Step} : chk x = 0 ↔ GoodS x := by
 unfold chk
 constructor
 · intro h
   split at h
   · cases h
   · rename_i h0
     split at h
     · cases h
     · rename_i h6
       obtain ⟨a, b, c⟩ := chkS_zero.1 h
       exact ⟨fun q => h0 (by rw [q]; rfl), by omega, a, b, c⟩
 · rintro ⟨a, b, c, d, e⟩
   have : 0 < x.strokes.length := List.length_pos_iff.2 a
   rw [if_neg (by omega), if_neg (by omega)]
   exact chkS_zero.2 ⟨c, d, e⟩
theorem asc_mem : ∀ {r : List Stroke} {last : Int}, Asc last r → ∀ y ∈ r, 0 ≤ y.actuator ∧ y.actuator < 6 ∧ last < y.actuator
 | z :: r, last, h, y, hy => by
  rcases List.mem_cons.1 hy with rfl | hy
  · exact ⟨h.1, h.2.1, h.2.2.1⟩
  · obtain ⟨a, b, c⟩ := asc_mem h.2.2.2 y hy
    have := h.2.2.1
    exact ⟨a, b, by omega⟩
def wr (y : Stroke) : List UInt8 := [UInt8.ofNat (65 + y.actuator.toNat), if y.out then 43 else 45]
theorem enc_at : ∀ a : Fin 6, (Utf8.encode (IntKind.wrap .i32 (IntKind.wrap .i64 (65 + (a.val : Int))))).data.toList = [UInt8.ofNat (65 + a.val)] := by decide +kernel
def decT (n : Int) : List UInt8 := Lib.decDigits n.toNat
def words (x : Step) : List (List UInt8) := x.strokes.map wr ++ (if x.wait > 0 then [decT x.wait] else [])
def wayS (n : Int) : List Stroke → Int
 | [] => 0
 | y :: r => if y.actuator = n then (if y.out = true then 1 else -1) else wayS n r
theorem rway_loop (x : Step) (n : Int) (hl : x.strokes.length ≤ 100) : ∀ (r pre : List Stroke), x.strokes = pre ++ r → ref13_Way_loop1 x n (some 0) (r.length + 1) (pre.length : Int) = some (wayS n r)
 | [], pre, e => by
  unfold ref13_Way_loop1
  rw [e, ge_end]
  simp [wayS]
 | y :: r, pre, e => by
  have ih := rway_loop x n hl r (pre ++ [y]) (by rw [e, mid_cons])
  have hat : at? x.strokes (pre.length : Int) = some y := by rw [e]; exact at?_mid
  have hlen : x.strokes.length = pre.length + (r.length + 1) := by rw [e]; simp
  unfold ref13_Way_loop1
  rw [if_pos (by rw [decide_eq_true_eq]; omega), hat]
  simp only [Option.bind_some]
  rw [wrap64 (x := (pre.length : Int) + 1) (by omega) (by omega), wayS]
  by_cases h : y.actuator = n
  · rw [if_pos (by simpa using h), if_pos h]
    cases y.out <;> rfl
  · rw [if_neg (by simpa using h), if_neg h]
    have e2 : (((pre ++ [y]).length : Nat) : Int) = (pre.length : Int) + 1 := by simp
    rw [e2] at ih
    exact ih
theorem rway_eq (x : Step) (n : Int) (hf : x.strokes.length ≤ 100) : ref13_Way x n = some (wayS n x.strokes) := by
 unfold ref13_Way joinK
 dsimp only
 rw [fuel0]
 exact rway_loop x n hf x.strokes [] rfl
instance (s : List UInt8) : Decidable (noLead s) := by unfold noLead; infer_instance
def setL (l : List Bool) : List Stroke → List Bool
 | [] => l
 | y :: r => setL (l.set y.actuator.toNat y.out) r
theorem setL_len : ∀ (r : List Stroke) (l : List Bool), (setL l r).length = l.length
 | [], l => rfl
 | y :: r, l => by rw [setL, setL_len r, List.length_set]
def suit1 (ends : List Bool) (y : Stroke) : Bool := match ends[y.actuator.toNat]? with | none => false | some b => b != y.out
def suitsB (x : Step) (ends : List Bool) : Bool := x.strokes.all (suit1 ends)
theorem rsuits_loop (x : Step) (ends : List Bool) (hl : x.strokes.length ≤ 100) (hp : ∀ y ∈ x.strokes, 0 ≤ y.actuator) : ∀ (r pre : List Stroke), x.strokes = pre ++ r → ref13_Suits_loop1 x ends (some true) (r.length + 1) (pre.length : Int) = some (r.all (suit1 ends))
 | [], pre, e => by
  unfold ref13_Suits_loop1
  rw [e, ge_end]
  simp
 | y :: r, pre, e => by
  have hlen : x.strokes.length = pre.length + (r.length + 1) := by rw [e]; simp
  have hat : at? x.strokes (pre.length : Int) = some y := by rw [e]; exact at?_mid
  have h0 := hp y (by rw [e]; simp)
  have ih := rsuits_loop x ends hl hp r (pre ++ [y]) (by rw [e, mid_cons])
  have e2 : (((pre ++ [y]).length : Nat) : Int) = (pre.length : Int) + 1 := by simp
  rw [e2] at ih
  unfold ref13_Suits_loop1
  rw [if_pos (by rw [decide_eq_true_eq]; omega), hat, Option.bind_some, wrap64 (x := (pre.length : Int) + 1) (by omega) (by omega), List.length_cons, ih, List.all_cons]
  have hs : suit1 ends y = match ends[y.actuator.toNat]? with | none => false | some b => b != y.out := rfl
  by_cases hlt : y.actuator.toNat < ends.length
  · have hg := List.getElem?_eq_getElem hlt
    have ha : at? ends y.actuator = some ends[y.actuator.toNat] := by unfold at?; rw [if_pos h0, hg]
    rw [if_neg (by rw [decide_eq_true_eq]; omega), ha, hs, hg]
    simp only [Option.bind_some]
    cases ends[y.actuator.toNat] <;> cases y.out <;> simp
  · have hg : ends[y.actuator.toNat]? = none := List.getElem?_eq_none (by omega)
    rw [if_pos (by rw [decide_eq_true_eq]; omega), hs, hg]
    simp
theorem rsuits_eq (x : Step) (ends : List Bool) (g : GoodS x) : ref13_Suits x ends = some (suitsB x ends) := by
 unfold ref13_Suits joinK
 dsimp only
 rw [fuel0]
 have hf := g.few
 exact rsuits_loop x ends (by omega) (fun y hy => (asc_mem g.asc y hy).1) x.strokes [] rfl
theorem suit_lt {ends : List Bool} {y : Stroke} (h : suit1 ends y = true) : y.actuator.toNat < ends.length ∧ ends[y.actuator.toNat]? = some (!y.out) := by
 unfold suit1 at h
 split at h
 · cases h
 · rename_i b hb
   refine ⟨(List.getElem?_eq_some_iff.1 hb).1, ?_⟩
   rw [hb]
   congr 1
   cases b <;> cases hy : y.out <;> simp_all
theorem rafter_loop (x : Step) (hl : x.strokes.length ≤ 100) (k : List Bool → Option (List Bool)) : ∀ (r pre : List Stroke) (l : List Bool), x.strokes = pre ++ r → (∀ y ∈ r, 0 ≤ y.actuator ∧ y.actuator.toNat < l.length) →
 ref13_After_loop1 x k (r.length + 1) (pre.length : Int) l = k (setL l r)
 | [], pre, l, e, _ => by
  unfold ref13_After_loop1
  rw [e, ge_end]
  simp [setL]
 | y :: r, pre, l, e, hp => by
  have hlen : x.strokes.length = pre.length + (r.length + 1) := by rw [e]; simp
  have hat : at? x.strokes (pre.length : Int) = some y := by rw [e]; exact at?_mid
  obtain ⟨h0, hlt⟩ := hp y (by simp)
  have ha : at? l y.actuator = some l[y.actuator.toNat] := by unfold at?; rw [if_pos h0, List.getElem?_eq_getElem hlt]
  have ih := rafter_loop x hl k r (pre ++ [y]) (l.set y.actuator.toNat y.out) (by rw [e, mid_cons]) (fun z hz => by rw [List.length_set]; exact hp z (by simp [hz]))
  have e2 : (((pre ++ [y]).length : Nat) : Int) = (pre.length : Int) + 1 := by simp
  rw [e2] at ih
  unfold ref13_After_loop1
  rw [if_pos (by rw [decide_eq_true_eq]; omega), hat]
  simp only [Option.bind_some]
  rw [ha, Option.bind_some, wrap64 (x := (pre.length : Int) + 1) (by omega) (by omega), List.length_cons, ih, setL]
theorem suits_all {x : Step} {ends : List Bool} (g : GoodS x) (h : suitsB x ends = true) : ∀ y ∈ x.strokes, 0 ≤ y.actuator ∧ y.actuator.toNat < ends.length := fun y hy =>
 ⟨(asc_mem g.asc y hy).1, (suit_lt (List.all_eq_true.1 h y hy)).1⟩
theorem rafter_eq {x : Step} {ends : List Bool} (hl : x.strokes.length ≤ 100) (hp : ∀ y ∈ x.strokes, 0 ≤ y.actuator ∧ y.actuator.toNat < ends.length) (he : ends.length ≤ 1000) : ref13_After x ends = some (setL ends x.strokes) := by
 unfold ref13_After joinK
 dsimp only
 rw [appO_ok (by simp; omega) (by decide), Option.bind_some, fuel0, List.nil_append]
 exact rafter_loop x hl _ x.strokes [] ends rfl hp
theorem way_none {n : Int} : ∀ {r : List Stroke} {last : Int}, Asc last r → n ≤ last → wayS n r = 0
 | [], _, _, _ => rfl
 | y :: r, last, h, hn => by
  have h3 := h.2.2.1
  rw [wayS, if_neg (by omega)]
  exact way_none h.2.2.2 (by omega)
theorem setL_get : ∀ (r : List Stroke) (last : Int) (l : List Bool), Asc last r → ∀ i : Nat, i < l.length →
 (setL l r)[i]? = if wayS (i : Int) r = 1 then some true else if wayS (i : Int) r = -1 then some false else l[i]?
 | [], last, l, _, i, _ => by simp [setL, wayS]
 | y :: r, last, l, h, i, hi => by
  obtain ⟨h0, h1, h2, h3⟩ := h
  rw [setL, setL_get r y.actuator (l.set y.actuator.toNat y.out) h3 i (by rw [List.length_set]; exact hi), wayS]
  by_cases ha : y.actuator = (i : Int)
  · rw [if_pos ha, way_none h3 (by omega)]
    have e : y.actuator.toNat = i := by omega
    rw [if_neg (by decide), if_neg (by decide), e, List.getElem?_set_self hi]
    cases y.out <;> simp
  · rw [if_neg ha, List.getElem?_set_ne (by omega)]
def turn (y : Stroke) : Stroke := ⟨y.actuator, !y.out⟩
theorem step_mid {α : Type} {l pre r : List α} {x : α} (e : l = pre ++ x :: r) (h : l.length ≤ 4611686018427387904) :
 decide ((pre.length : Int) < (l.length : Int)) = true ∧ at? l (pre.length : Int) = some x ∧ IntKind.wrap .i64 ((pre.length : Int) + 1) = ((pre ++ [x]).length : Int) ∧ l = (pre ++ [x]) ++ r ∧ l.length = pre.length + (r.length + 1) := by
 subst e
 exact ⟨lt_mid, at?_mid, wrap_mid h, mid_cons, by simp⟩
theorem end_mid {α : Type} {l pre : List α} (e : l = pre ++ []) : decide ((pre.length : Int) < (l.length : Int)) = false := by
 subst e
 exact ge_end
theorem bnot_true (b : Bool) : (!b) = true ↔ b = false := by cases b <;> simp
def Ends6.l (x : Ends6) : List Bool := [x.a0, x.a1, x.a2, x.a3, x.a4, x.a5]
theorem l_len (x : Ends6) : x.l.length = 6 := rfl
def set6 (x : Ends6) (y : Stroke) : Ends6 :=
 if y.actuator = 0 then { x with a0 := y.out } else if y.actuator = 1 then { x with a1 := y.out } else if y.actuator = 2 then { x with a2 := y.out }
 else if y.actuator = 3 then { x with a3 := y.out } else if y.actuator = 4 then { x with a4 := y.out } else { x with a5 := y.out }
def run6 (x : Ends6) : List Stroke → Ends6
 | [] => x
 | y :: r => run6 (set6 x y) r
theorem set6_l (x : Ends6) {y : Stroke} (h0 : 0 ≤ y.actuator) (h1 : y.actuator < 6) : (set6 x y).l = x.l.set y.actuator.toNat y.out := by
 obtain ⟨a, o⟩ := y
 have : a = 0 ∨ a = 1 ∨ a = 2 ∨ a = 3 ∨ a = 4 ∨ a = 5 := by dsimp only at h0 h1; omega
 rcases this with rfl | rfl | rfl | rfl | rfl | rfl <;> rfl
theorem run6_l : ∀ (r : List Stroke) (x : Ends6), (∀ y ∈ r, 0 ≤ y.actuator ∧ y.actuator < 6) → (run6 x r).l = setL x.l r
 | [], x, _ => rfl
 | y :: r, x, h => by
  have h1 := h y (by simp)
  rw [run6, setL, run6_l r _ (fun z hz => h z (by simp [hz])), set6_l x h1.1 h1.2]
theorem behind_loop (s : Step) (hl : s.strokes.length ≤ 100) (hp : ∀ y ∈ s.strokes, 0 ≤ y.actuator ∧ y.actuator < 6) : ∀ (r pre : List Stroke) (x : Ends6), s.strokes = pre ++ r →
 sequence_ends_behind_loop1 s (fun c7 c8 c9 c10 c11 c12 => some (Ends6.mk c7 c8 c9 c10 c11 c12)) (r.length + 1) (pre.length : Int) x.a0 x.a1 x.a2 x.a3 x.a4 x.a5 = some (run6 x r)
 | [], pre, x, e => by
  rw [sequence_ends_behind_loop1, end_mid e]
  rfl
 | y :: r, pre, x, e => by
  obtain ⟨h1, h2, h3, h4, h5⟩ := step_mid e (by omega)
  have hy := hp y (by rw [e]; simp)
  have ih := behind_loop s hl hp r (pre ++ [y]) (set6 x y) h4
  rw [sequence_ends_behind_loop1, h1, if_pos rfl, h2, Option.bind_some, h3, run6, ← ih, List.length_cons]
  obtain ⟨a, o⟩ := y
  have : a = 0 ∨ a = 1 ∨ a = 2 ∨ a = 3 ∨ a = 4 ∨ a = 5 := by dsimp only at hy; omega
  rcases this with rfl | rfl | rfl | rfl | rfl | rfl <;> rfl
theorem behind_eq (x : Ends6) (s : Step) (hl : s.strokes.length ≤ 100) (hp : ∀ y ∈ s.strokes, 0 ≤ y.actuator ∧ y.actuator < 6) : sequence_ends_behind x s = some (run6 x s.strokes) := by
 unfold sequence_ends_behind joinK
 dsimp only
 rw [fuel0]
 exact behind_loop s hl hp s.strokes [] x rfl
theorem inB_loop (s : List Bool) (v : Bool) (hl : s.length ≤ 100000) : ∀ (r pre : List Bool), s = pre ++ r → ∃ i, slices_Index_boolbool_loop1 s v (some (-1)) (r.length + 1) (pre.length : Int) = some i ∧ decide (i ≥ 0) = decide (v ∈ r)
 | [], pre, e => by
  rw [slices_Index_boolbool_loop1, end_mid e]
  exact ⟨-1, rfl, by simp⟩
 | y :: r, pre, e => by
  obtain ⟨h1, h2, h3, h4, h5⟩ := step_mid e (by omega)
  obtain ⟨i, ih, k⟩ := inB_loop s v hl r (pre ++ [y]) h4
  rw [slices_Index_boolbool_loop1, h1, if_pos rfl, h2, Option.bind_some, h3, List.length_cons, ih]
  by_cases hv : v = y
  · refine ⟨(pre.length : Int), by rw [if_pos (by simpa using hv)], ?_⟩
    rw [decide_eq_true (by omega : (pre.length : Int) ≥ 0), decide_eq_true (by simp [hv])]
  · refine ⟨i, by rw [if_neg (by simpa using hv)], ?_⟩
    rw [k]
    simp [hv]
theorem inB_eq (s : List Bool) (v : Bool) (hl : s.length ≤ 100000) : slices_Contains_boolbool s v = some (decide (v ∈ s)) := by
 obtain ⟨i, h, k⟩ := inB_loop s v hl s [] rfl
 unfold slices_Contains_boolbool slices_Index_boolbool joinK
 dsimp only
 rw [fuel0]
 refine Eq.trans (congrArg (fun o => Option.bind o _) h) ?_
 rw [← k]
 rfl
def fitE (n : Int) (x : Step) (ends : List Bool) : Int := if chk x ≠ 0 then chk x else if ∃ y ∈ x.strokes, n ≤ y.actuator then 6 else if suitsB x ends = true then 0 else 14
theorem fits1_loop (s : Sequence) (x : Step) (k : Option Int) (hl : x.strokes.length ≤ 100) : ∀ (r pre : List Stroke), x.strokes = pre ++ r → sequence_fits_loop1 s x k (r.length + 1) (pre.length : Int) = if ∃ y ∈ r, s.actuators ≤ y.actuator then some 6 else k
 | [], pre, e => by
  rw [sequence_fits_loop1, end_mid e]
  simp
 | y :: r, pre, e => by
  obtain ⟨h1, h2, h3, h4, h5⟩ := step_mid e (by omega)
  have ih := fits1_loop s x k hl r (pre ++ [y]) h4
  rw [sequence_fits_loop1, h1, if_pos rfl, h2, Option.bind_some, h3, List.length_cons, ih]
  by_cases hv : s.actuators ≤ y.actuator
  · rw [if_pos (by rw [decide_eq_true_eq]; omega), if_pos ⟨y, by simp, hv⟩]
  · rw [if_neg (by rw [decide_eq_true_eq]; omega)]
    simp [hv]
theorem suit_six (x : Ends6) {y : Stroke} (h0 : 0 ≤ y.actuator) (h1 : y.actuator < 6) : ∃ b, x.l[y.actuator.toNat]? = some b ∧ suit1 x.l y = !(b == y.out) := by
 have : y.actuator.toNat < x.l.length := by rw [l_len]; omega
 refine ⟨x.l[y.actuator.toNat], List.getElem?_eq_getElem this, ?_⟩
 unfold suit1
 rw [List.getElem?_eq_getElem this]
 cases x.l[y.actuator.toNat] <;> cases y.out <;> rfl
theorem fits2_loop (x : Step) (e6 : Ends6) (hl : x.strokes.length ≤ 100) (hp : ∀ y ∈ x.strokes, 0 ≤ y.actuator ∧ y.actuator < 6) : ∀ (r pre : List Stroke), x.strokes = pre ++ r → sequence_fits_loop2 x e6 (some 0) (r.length + 1) (pre.length : Int) = some (if r.all (suit1 e6.l) = true then 0 else 14)
 | [], pre, e => by
  rw [sequence_fits_loop2, end_mid e]
  simp
 | y :: r, pre, e => by
  obtain ⟨h1, h2, h3, h4, h5⟩ := step_mid e (by omega)
  have ih := fits2_loop x e6 hl hp r (pre ++ [y]) h4
  have hy := hp y (by rw [e]; simp)
  obtain ⟨b, g1, g2⟩ := suit_six e6 hy.1 hy.2
  rw [sequence_fits_loop2, h1, if_pos rfl, h2, Option.bind_some, h3, List.length_cons]
  unfold joinK
  dsimp only
  rw [ih, List.all_cons, g2]
  have key : ∀ c : Bool, (if c = true then some (14 : Int) else some (if r.all (suit1 e6.l) = true then 0 else 14)) = some (if (!c && r.all (suit1 e6.l)) = true then 0 else 14) := by
   intro c; cases c <;> simp
  obtain ⟨a, o⟩ := y
  have : a = 0 ∨ a = 1 ∨ a = 2 ∨ a = 3 ∨ a = 4 ∨ a = 5 := by dsimp only at hy; omega
  rcases this with rfl | rfl | rfl | rfl | rfl | rfl <;> (obtain rfl := Option.some.inj g1; exact key _)
theorem lfits14 (s : Sequence) (x : Step) (e6 : Ends6) : sequence_fits s x e6 = some (fitE s.actuators x e6.l) := by
 unfold sequence_fits fitE
 rw [lchk_eq, Option.bind_some]
 by_cases h : chk x = 0
 · have g := chk_zero.1 h
   have hf := g.few
   rw [if_neg (by simpa using h), if_neg (fun q => q h)]
   unfold joinK
   dsimp only
   have q := fits2_loop x e6 (by omega) (fun y hy => ⟨(asc_mem g.asc y hy).1, (asc_mem g.asc y hy).2.1⟩) x.strokes [] rfl
   rw [show (([] : List Stroke).length : Int) = 0 from rfl] at q
   rw [fuel0, q]
   refine Eq.trans (fits1_loop s x _ (by omega) x.strokes [] rfl) ?_
   split
   · rfl
   · rfl
 · rw [if_pos (by simpa using h), if_pos h]
def flat (l : List Step) : List Stroke := l.flatMap (·.strokes)
theorem flat_cons (x : Step) (r : List Step) : flat (x :: r) = x.strokes ++ flat r := by simp [flat]
def runE (n : Int) (l : List Bool) : List Step → Int × List Bool
 | [] => (0, l)
 | x :: r => if fitE n x l ≠ 0 then (fitE n x l, l) else runE n (setL l x.strokes) r
def mv (L : List Stroke) : Ends6 := ⟨L.any (·.actuator == 0), L.any (·.actuator == 1), L.any (·.actuator == 2), L.any (·.actuator == 3), L.any (·.actuator == 4), L.any (·.actuator == 5)⟩
def allMove (n : Int) (L : List Stroke) : Bool := (List.range n.toNat).all fun i => L.any fun y => y.actuator == (i : Int)
def zeros (n : Nat) : List Bool := List.replicate n false
def checkE (s : Sequence) : Int :=
 if s.actuators < 1 ∨ 6 < s.actuators then 2 else if s.steps.length = 0 then 13 else if 64 < s.steps.length then 5
 else if (runE s.actuators (zeros s.actuators.toNat) s.steps).1 ≠ 0 then (runE s.actuators (zeros s.actuators.toNat) s.steps).1
 else if true ∈ (runE s.actuators (zeros s.actuators.toNat) s.steps).2 then 9 else if allMove s.actuators (flat s.steps) = true then 0 else 13
theorem fitE_zero {n : Int} {x : Step} {l : List Bool} (h : fitE n x l = 0) : GoodS x ∧ (∀ y ∈ x.strokes, y.actuator < n) ∧ suitsB x l = true := by
 unfold fitE at h
 split at h
 · rename_i q; exact absurd h q
 · rename_i q
   split at h
   · cases h
   · rename_i q2
     split at h
     · rename_i q3
       exact ⟨chk_zero.1 (Decidable.not_not.1 q), fun y hy => by
        rcases Int.lt_or_le y.actuator n with z | z
        · exact z
        · exact absurd ⟨y, hy, z⟩ q2, q3⟩
     · cases h
theorem check2_loop (x : Step) (r2 : Ends6) (K : Bool → Bool → Bool → Bool → Bool → Bool → Bool → Bool → Bool → Bool → Bool → Bool → Option Int) (hl : x.strokes.length ≤ 100) (hp : ∀ y ∈ x.strokes, 0 ≤ y.actuator ∧ y.actuator < 6) : ∀ (r pre L : List Stroke), x.strokes = pre ++ r →
 sequence_Check_loop2 K x r2 (r.length + 1) (pre.length : Int) (mv L).a0 (mv L).a1 (mv L).a2 (mv L).a3 (mv L).a4 (mv L).a5 = K r2.a0 r2.a1 r2.a2 r2.a3 r2.a4 r2.a5 (mv (L ++ r)).a0 (mv (L ++ r)).a1 (mv (L ++ r)).a2 (mv (L ++ r)).a3 (mv (L ++ r)).a4 (mv (L ++ r)).a5
 | [], pre, L, e => by
  rw [sequence_Check_loop2, end_mid e, List.append_nil]
  rfl
 | y :: r, pre, L, e => by
  obtain ⟨h1, h2, h3, h4, h5⟩ := step_mid e (by omega)
  have hy := hp y (by rw [e]; simp)
  have ih := check2_loop x r2 K hl hp r (pre ++ [y]) (L ++ [y]) h4
  rw [List.append_assoc, List.singleton_append] at ih
  rw [sequence_Check_loop2, h1, if_pos rfl, h2, Option.bind_some, h3, ← ih, List.length_cons]
  obtain ⟨a, o⟩ := y
  have : a = 0 ∨ a = 1 ∨ a = 2 ∨ a = 3 ∨ a = 4 ∨ a = 5 := by dsimp only at hy; omega
  rcases this with rfl | rfl | rfl | rfl | rfl | rfl <;> simp [mv]
theorem check1_loop (s : Sequence) (K : Bool → Bool → Bool → Bool → Bool → Bool → Bool → Bool → Bool → Bool → Bool → Bool → Option Int) (hl : s.steps.length ≤ 100) : ∀ (r pre : List Step) (x : Ends6) (L : List Stroke), s.steps = pre ++ r →
 ∃ x' : Ends6, x'.l = (runE s.actuators x.l r).2 ∧ sequence_Check_loop1 s K (r.length + 1) (pre.length : Int) x.a0 x.a1 x.a2 x.a3 x.a4 x.a5 (mv L).a0 (mv L).a1 (mv L).a2 (mv L).a3 (mv L).a4 (mv L).a5 =
  if (runE s.actuators x.l r).1 ≠ 0 then some (runE s.actuators x.l r).1 else K x'.a0 x'.a1 x'.a2 x'.a3 x'.a4 x'.a5 (mv (L ++ flat r)).a0 (mv (L ++ flat r)).a1 (mv (L ++ flat r)).a2 (mv (L ++ flat r)).a3 (mv (L ++ flat r)).a4 (mv (L ++ flat r)).a5
 | [], pre, x, L, e => by
  rw [sequence_Check_loop1, end_mid e]
  refine ⟨x, rfl, ?_⟩
  simp [runE, flat]
 | y :: r, pre, x, L, e => by
  obtain ⟨h1, h2, h3, h4, h5⟩ := step_mid e (by omega)
  rw [sequence_Check_loop1, h1, if_pos rfl, h2]
  unfold joinK
  dsimp only
  rw [Option.bind_some, h3, List.length_cons]
  have hx : (Ends6.mk x.a0 x.a1 x.a2 x.a3 x.a4 x.a5) = x := rfl
  rw [hx, lfits14, Option.bind_some]
  by_cases hz : fitE s.actuators y x.l = 0
  · obtain ⟨g, g1, g2⟩ := fitE_zero hz
    have hp : ∀ z ∈ y.strokes, 0 ≤ z.actuator ∧ z.actuator < 6 := fun z hz => ⟨(asc_mem g.asc z hz).1, (asc_mem g.asc z hz).2.1⟩
    have hf := g.few
    obtain ⟨x', k1, k2⟩ := check1_loop s K hl r (pre ++ [y]) (run6 x y.strokes) (L ++ y.strokes) h4
    rw [run6_l _ _ hp] at k1 k2
    have hr : runE s.actuators x.l (y :: r) = runE s.actuators (setL x.l y.strokes) r := by rw [runE, if_neg (fun q => q hz)]
    rw [if_neg (by simpa using hz), hr]
    refine ⟨x', k1, ?_⟩
    rw [List.append_assoc, ← flat_cons] at k2
    rw [← k2, behind_eq _ _ (by omega) hp, Option.bind_some, fuel0]
    exact check2_loop y (run6 x y.strokes) _ (by omega) hp y.strokes [] L rfl
  · have hr : runE s.actuators x.l (y :: r) = (fitE s.actuators y x.l, x.l) := by rw [runE, if_pos hz]
    rw [if_pos (by simpa using hz), hr]
    refine ⟨x, rfl, ?_⟩
    dsimp only
    rw [if_pos hz]
theorem setL_app (z : List Bool) : ∀ (r : List Stroke) (l : List Bool), (∀ y ∈ r, y.actuator.toNat < l.length) → setL (l ++ z) r = setL l r ++ z
 | [], l, _ => rfl
 | y :: r, l, h => by
  rw [setL, setL, List.set_append_left _ _ (h y (by simp)), setL_app z r _ (fun w hw => by rw [List.length_set]; exact h w (by simp [hw]))]
theorem suit_app {l z : List Bool} {y : Stroke} (h : y.actuator.toNat < l.length) : suit1 (l ++ z) y = suit1 l y := by
 unfold suit1
 rw [List.getElem?_append_left h]
theorem fitE_app {n : Int} {x : Step} {l z : List Bool} (h : l.length = n.toNat) : fitE n x (l ++ z) = fitE n x l := by
 unfold fitE
 split
 · rfl
 · rename_i hc
   have g := chk_zero.1 (Decidable.not_not.1 hc)
   split
   · rfl
   · rename_i hq
     have : suitsB x (l ++ z) = suitsB x l := by
      unfold suitsB
      rw [Bool.eq_iff_iff, List.all_eq_true, List.all_eq_true]
      have k : ∀ y ∈ x.strokes, suit1 (l ++ z) y = suit1 l y := fun y hy => by
       refine suit_app ?_
       have : ¬ n ≤ y.actuator := fun q => hq ⟨y, hy, q⟩
       have := (asc_mem g.asc y hy).1
       omega
      exact ⟨fun q y hy => by rw [← k y hy]; exact q y hy, fun q y hy => by rw [k y hy]; exact q y hy⟩
     rw [this]
theorem lt_all {n : Int} {x : Step} {l : List Bool} (g : GoodS x) (hn : l.length = n.toNat) (h : ∀ y ∈ x.strokes, y.actuator < n) : ∀ y ∈ x.strokes, y.actuator.toNat < l.length := fun y hy => by
 have := (asc_mem g.asc y hy).1
 have := h y hy
 omega
theorem runE_app {n : Int} (z : List Bool) : ∀ (r : List Step) (l : List Bool), l.length = n.toNat → runE n (l ++ z) r = ((runE n l r).1, (runE n l r).2 ++ z)
 | [], l, _ => rfl
 | x :: r, l, h => by
  rw [runE, runE, fitE_app h]
  split
  · rfl
  · rename_i q
    obtain ⟨g, g1, g2⟩ := fitE_zero (Decidable.not_not.1 q)
    rw [setL_app z _ _ (lt_all g h g1), runE_app z r _ (by rw [setL_len, h])]
theorem runE_len {n : Int} : ∀ (r : List Step) (l : List Bool), (runE n l r).2.length = l.length
 | [], l => rfl
 | x :: r, l => by
  rw [runE]
  split
  · rfl
  · rw [runE_len r, setL_len]
theorem mv_take {n : Int} (h0 : 1 ≤ n) (h1 : n ≤ 6) (L : List Stroke) : part? [(mv L).a0, (mv L).a1, (mv L).a2, (mv L).a3, (mv L).a4, (mv L).a5] 0 n = some ((List.range n.toNat).map fun i : Nat => L.any fun y => y.actuator == (i : Int)) := by
 have : n = 1 ∨ n = 2 ∨ n = 3 ∨ n = 4 ∨ n = 5 ∨ n = 6 := by omega
 rcases this with rfl | rfl | rfl | rfl | rfl | rfl <;> rfl
theorem six_zero (x : Ends6) : (!(x == Ends6.mk false false false false false false)) = decide (true ∈ x.l) := by
 obtain ⟨a, b, c, d, e, f⟩ := x
 cases a <;> cases b <;> cases c <;> cases d <;> cases e <;> cases f <;> rfl
theorem zeros_pad {n : Int} (h0 : 1 ≤ n) (h1 : n ≤ 6) : (Ends6.mk false false false false false false).l = zeros n.toNat ++ zeros (6 - n.toNat) := by
 have : n = 1 ∨ n = 2 ∨ n = 3 ∨ n = 4 ∨ n = 5 ∨ n = 6 := by omega
 rcases this with rfl | rfl | rfl | rfl | rfl | rfl <;> rfl
theorem zeros_no (n : Nat) : true ∉ zeros n := by simp [zeros]
theorem allMove_in (n : Int) (L : List Stroke) : decide (false ∈ (List.range n.toNat).map fun i : Nat => L.any fun y => y.actuator == (i : Int)) = !(allMove n L) := by
 unfold allMove
 rw [Bool.eq_iff_iff, decide_eq_true_eq, bnot_true, List.all_eq_false, List.mem_map]
 constructor
 · rintro ⟨i, h1, h2⟩; exact ⟨i, h1, by rw [h2]; simp⟩
 · rintro ⟨i, h1, h2⟩; exact ⟨i, h1, by simpa using h2⟩
theorem lcheck14 (s : Sequence) : sequence_Check s = some (checkE s) := by
 unfold sequence_Check checkE
 by_cases hn : s.actuators < 1 ∨ 6 < s.actuators
 · rw [if_pos (by simpa using hn), if_pos hn]
 rw [if_neg (by simpa using hn), if_neg hn]
 by_cases h0 : s.steps.length = 0
 · rw [if_pos (by simpa using h0), if_pos h0]
 rw [if_neg (by simpa using h0), if_neg h0]
 by_cases h6 : 64 < s.steps.length
 · rw [if_pos (by simpa using by omega), if_pos h6]
 rw [if_neg (by simpa using by omega), if_neg h6]
 unfold joinK
 dsimp only
 rw [fuel0]
 have n0 : 1 ≤ s.actuators := by omega
 have n1 : s.actuators ≤ 6 := by omega
 obtain ⟨x', k1, k2⟩ := check1_loop s (fun (c31 : Bool) (c32 : Bool) (c33 : Bool) (c34 : Bool) (c35 : Bool) (c36 : Bool) (c37 : Bool) (c38 : Bool) (c39 : Bool) (c40 : Bool) (c41 : Bool) (c42 : Bool) =>
  if (!((Ends6.mk c31 c32 c33 c34 c35 c36) == (Ends6.mk false false false false false false))) = true then
   some 9
  else
   (part? ([c37, c38, c39, c40, c41, c42] : List Bool) 0 s.actuators).bind fun l1 =>
    (slices_Contains_boolbool l1 false).bind fun r3 =>
    if r3 = true then
    some 13
   else
    some 0) (by omega) s.steps [] (Ends6.mk false false false false false false) [] rfl
 refine Eq.trans k2 ?_
 rw [zeros_pad n0 n1, runE_app _ _ _ (by simp [zeros])] at k1 ⊢
 dsimp only at k1 ⊢
 split
 · rfl
 · have hx : (Ends6.mk x'.a0 x'.a1 x'.a2 x'.a3 x'.a4 x'.a5) = x' := rfl
   rw [hx, six_zero, k1, List.nil_append, mv_take n0 n1, Option.bind_some, inB_eq _ _ (by simp; omega), Option.bind_some, allMove_in]
   have hm : (true ∈ (runE s.actuators (zeros s.actuators.toNat) s.steps).2 ++ zeros (6 - s.actuators.toNat)) ↔ true ∈ (runE s.actuators (zeros s.actuators.toNat) s.steps).2 := by
    rw [List.mem_append]
    exact ⟨fun q => q.resolve_right (zeros_no _), Or.inl⟩
   by_cases hq : true ∈ (runE s.actuators (zeros s.actuators.toNat) s.steps).2
   · rw [if_pos (by rw [decide_eq_true_eq]; exact hm.2 hq), if_pos hq]
   · rw [if_neg (by rw [decide_eq_true_eq]; exact fun q => hq (hm.1 q)), if_neg hq]
     cases allMove s.actuators (flat s.steps) <;> rfl
theorem rst2_loop (s : Sequence) (x : Step) (k : Option Int) (hl : x.strokes.length ≤ 100) : ∀ (r pre : List Stroke), x.strokes = pre ++ r → ref14_steps_loop2 s x k (r.length + 1) (pre.length : Int) = if ∃ y ∈ r, s.actuators ≤ y.actuator then some 6 else k
 | [], pre, e => by
  rw [ref14_steps_loop2, end_mid e]
  simp
 | y :: r, pre, e => by
  obtain ⟨h1, h2, h3, h4, h5⟩ := step_mid e (by omega)
  have ih := rst2_loop s x k hl r (pre ++ [y]) h4
  rw [ref14_steps_loop2, h1, if_pos rfl, h2, Option.bind_some, h3, List.length_cons, ih]
  by_cases hv : s.actuators ≤ y.actuator
  · rw [if_pos (by rw [decide_eq_true_eq]; omega), if_pos ⟨y, by simp, hv⟩]
  · rw [if_neg (by rw [decide_eq_true_eq]; omega)]
    simp [hv]
theorem rst1_loop (s : Sequence) (n0 : 1 ≤ s.actuators) (n1 : s.actuators ≤ 6) (K : List Bool → Option Int) (hl : s.steps.length ≤ 100) : ∀ (r pre : List Step) (l : List Bool), s.steps = pre ++ r → l.length = s.actuators.toNat →
 ref14_steps_loop1 s K (r.length + 1) l (pre.length : Int) = if (runE s.actuators l r).1 ≠ 0 then some (runE s.actuators l r).1 else K (runE s.actuators l r).2
 | [], pre, l, e, hn => by
  rw [ref14_steps_loop1, end_mid e]
  simp [runE]
 | y :: r, pre, l, e, hn => by
  obtain ⟨h1, h2, h3, h4, h5⟩ := step_mid e (by omega)
  rw [ref14_steps_loop1, h1, if_pos rfl, h2]
  unfold joinK
  dsimp only
  rw [Option.bind_some, h3, List.length_cons, rchk_eq, Option.bind_some]
  by_cases hz : fitE s.actuators y l = 0
  · obtain ⟨g, g1, g2⟩ := fitE_zero hz
    have hf := g.few
    have hc : chk y = 0 := chk_zero.2 g
    have hr : runE s.actuators l (y :: r) = runE s.actuators (setL l y.strokes) r := by rw [runE, if_neg (fun q => q hz)]
    rw [if_neg (by simpa using hc), hr, rsuits_eq y l g, Option.bind_some, g2, if_neg (by simp), rafter_eq (by omega) (suits_all g g2) (by omega), Option.bind_some, fuel0]
    have q := rst2_loop s y (ref14_steps_loop1 s K (r.length + 1) (setL l y.strokes) ((pre ++ [y]).length : Int)) (by omega) y.strokes [] rfl
    rw [show (([] : List Stroke).length : Int) = 0 from rfl] at q
    rw [q, if_neg (by rintro ⟨z, hz, k⟩; have := g1 z hz; omega)]
    exact rst1_loop s n0 n1 K hl r (pre ++ [y]) _ h4 (by rw [setL_len, hn])
  · have hr : runE s.actuators l (y :: r) = (fitE s.actuators y l, l) := by rw [runE, if_pos hz]
    rw [hr]
    dsimp only
    rw [if_pos hz]
    by_cases hc : chk y = 0
    · have g := chk_zero.1 hc
      have hf := g.few
      rw [if_neg (by simpa using hc), fuel0]
      have q := rst2_loop s y ((ref13_Suits y l).bind fun r2 => if (!r2) = true then some 14 else (ref13_After y l).bind fun r3 => ref14_steps_loop1 s K (r.length + 1) r3 ((pre ++ [y]).length : Int)) (by omega) y.strokes [] rfl
      rw [show (([] : List Stroke).length : Int) = 0 from rfl] at q
      rw [q]
      have hF : fitE s.actuators y l = if ∃ z ∈ y.strokes, s.actuators ≤ z.actuator then 6 else if suitsB y l = true then 0 else 14 := by
       unfold fitE
       rw [if_neg (fun q => q hc)]
      rw [hF] at hz ⊢
      by_cases hq : ∃ z ∈ y.strokes, s.actuators ≤ z.actuator
      · rw [if_pos hq, if_pos hq]
      · rw [if_neg hq] at hz ⊢
        rw [if_neg hq, rsuits_eq y l g, Option.bind_some]
        cases hs : suitsB y l
        · simp
        · rw [hs] at hz; simp at hz
    · rw [if_pos (by simpa using hc)]
      unfold fitE
      rw [if_pos hc]
theorem rst3_loop (s : Sequence) (l : List Bool) (hn : s.actuators = (l.length : Int)) (hl : l.length ≤ 100) : ∀ (r pre : List Bool), l = pre ++ r → ref14_steps_loop3 s l (some 0) (r.length + 1) (pre.length : Int) = some (if true ∈ r then 9 else 0)
 | [], pre, e => by
  rw [ref14_steps_loop3, hn, end_mid e]
  simp
 | y :: r, pre, e => by
  obtain ⟨h1, h2, h3, h4, h5⟩ := step_mid e (by omega)
  have ih := rst3_loop s l hn hl r (pre ++ [y]) h4
  rw [ref14_steps_loop3, hn, h1, if_pos rfl, h2, Option.bind_some, h3, List.length_cons, ih]
  cases y <;> simp
theorem zeros_len (n : Nat) : (zeros n).length = n := by simp [zeros]
theorem rsteps14 (s : Sequence) (n0 : 1 ≤ s.actuators) (n1 : s.actuators ≤ 6) (hl : s.steps.length ≤ 100) : ref14_steps s =
 some (if (runE s.actuators (zeros s.actuators.toNat) s.steps).1 ≠ 0 then (runE s.actuators (zeros s.actuators.toNat) s.steps).1 else if true ∈ (runE s.actuators (zeros s.actuators.toNat) s.steps).2 then 9 else 0) := by
 unfold ref14_steps guardO joinK
 dsimp only
 rw [if_pos (by simp; omega), Option.bind_some, fuel0]
 refine Eq.trans (rst1_loop s n0 n1 _ hl s.steps [] (zeros s.actuators.toNat) rfl (zeros_len _)) ?_
 by_cases hz : (runE s.actuators (zeros s.actuators.toNat) s.steps).1 ≠ 0
 · rw [if_pos hz, if_pos hz]
 · rw [if_neg hz, if_neg hz]
   have hlen := runE_len (n := s.actuators) s.steps (zeros s.actuators.toNat)
   rw [zeros_len] at hlen
   have q := rst3_loop s (runE s.actuators (zeros s.actuators.toNat) s.steps).2 (by omega) (by omega) _ [] rfl
   rw [hlen] at q
   rw [show Int.toNat (s.actuators - 0) = s.actuators.toNat by simp]
   exact q
theorem way_any (n : Int) : ∀ r : List Stroke, (wayS n r != 0) = r.any (·.actuator == n)
 | [] => rfl
 | y :: r => by
  rw [wayS, List.any_cons, ← way_any n r]
  by_cases h : y.actuator = n
  · rw [if_pos h]; cases y.out <;> simp [h]
  · rw [if_neg h]; simp [h]
theorem rmoves_loop (s : Sequence) (a : Int) (hl : s.steps.length ≤ 1000) (hs : ∀ x ∈ s.steps, x.strokes.length ≤ 100) : ∀ (r pre : List Step), s.steps = pre ++ r → ref14_moves_loop1 s a (some false) (r.length + 1) (pre.length : Int) = some ((flat r).any (·.actuator == a))
 | [], pre, e => by
  rw [ref14_moves_loop1, end_mid e]
  rfl
 | y :: r, pre, e => by
  obtain ⟨h1, h2, h3, h4, h5⟩ := step_mid e (by omega)
  have ih := rmoves_loop s a hl hs r (pre ++ [y]) h4
  rw [ref14_moves_loop1, h1, if_pos rfl, h2, Option.bind_some, rway_eq _ _ (hs y (by rw [e]; simp)), Option.bind_some, h3, List.length_cons, ih, way_any, flat_cons, List.any_append]
  cases (y.strokes.any fun x => x.actuator == a) <;> simp
theorem rmoves_eq (s : Sequence) (a : Int) (hl : s.steps.length ≤ 1000) (hs : ∀ x ∈ s.steps, x.strokes.length ≤ 100) : ref14_moves s a = some ((flat s.steps).any (·.actuator == a)) := by
 unfold ref14_moves joinK
 dsimp only
 rw [fuel0]
 exact rmoves_loop s a hl hs s.steps [] rfl
theorem rchkm_loop (s : Sequence) (hl : s.steps.length ≤ 1000) (hs : ∀ x ∈ s.steps, x.strokes.length ≤ 100) (n1 : s.actuators ≤ 6) : ∀ (m i : Nat), i + m = s.actuators.toNat →
 ref14_Check_loop1 s (some 0) (m + 1) (i : Int) = some (if ((List.range' i m).all fun j => (flat s.steps).any fun y => y.actuator == (j : Int)) = true then 0 else 13)
 | 0, i, h => by
  rw [ref14_Check_loop1, if_neg (by rw [decide_eq_true_eq]; omega)]
  rfl
 | m + 1, i, h => by
  have ih := rchkm_loop s hl hs n1 m (i + 1) (by omega)
  rw [ref14_Check_loop1, if_pos (by rw [decide_eq_true_eq]; omega), rmoves_eq s _ hl hs, Option.bind_some, wrap64 (by omega) (by omega), show (i : Int) + 1 = ((i + 1 : Nat) : Int) by omega, ih, List.range'_succ, List.all_cons]
  cases ((flat s.steps).any fun y => y.actuator == (i : Int))
  · simp
  · simp only [Bool.not_true, Bool.false_eq_true, if_false, Bool.true_and]
theorem runE_good {n : Int} : ∀ (r : List Step) (l : List Bool), (runE n l r).1 = 0 → ∀ x ∈ r, GoodS x ∧ ∀ y ∈ x.strokes, y.actuator < n
 | [], l, _, x, hx => by cases hx
 | y :: r, l, h, x, hx => by
  rw [runE] at h
  split at h
  · rename_i q; exact absurd h q
  · rename_i q
    rcases List.mem_cons.1 hx with rfl | hx
    · obtain ⟨g, g1, _⟩ := fitE_zero (Decidable.not_not.1 q)
      exact ⟨g, g1⟩
    · exact runE_good r _ h x hx
theorem rcheck14 (s : Sequence) : ref14_Check s = some (checkE s) := by
 unfold ref14_Check checkE
 by_cases hn : s.actuators < 1 ∨ 6 < s.actuators
 · rw [if_pos (by simpa using hn), if_pos hn]
 rw [if_neg (by simpa using hn), if_neg hn]
 by_cases h0 : s.steps.length = 0
 · rw [if_pos (by simpa using h0), if_pos h0]
 rw [if_neg (by simpa using h0), if_neg h0]
 by_cases h6 : 64 < s.steps.length
 · rw [if_pos (by simpa using by omega), if_pos h6]
 rw [if_neg (by simpa using by omega), if_neg h6, rsteps14 s (by omega) (by omega) (by omega), Option.bind_some]
 by_cases he : (runE s.actuators (zeros s.actuators.toNat) s.steps).1 = 0
 · have hne : ¬ (runE s.actuators (zeros s.actuators.toNat) s.steps).1 ≠ 0 := fun q => q he
   rw [if_neg hne, if_neg hne]
   by_cases hq : true ∈ (runE s.actuators (zeros s.actuators.toNat) s.steps).2
   · rw [if_pos hq, if_pos hq]; rfl
   · rw [if_neg hq, if_neg hq, if_neg (by simp)]
     unfold joinK
     dsimp only
     have q := rchkm_loop s (by omega) (fun x hx => by have := (runE_good _ _ he x hx).1.few; omega) (by omega) s.actuators.toNat 0 (by omega)
     rw [show Int.toNat (s.actuators - 0) = s.actuators.toNat by simp]
     refine Eq.trans q ?_
     rw [← List.range_eq_range']
     rfl
 · have hne : (runE s.actuators (zeros s.actuators.toNat) s.steps).1 ≠ 0 := he
   rw [if_pos hne, if_pos hne, if_pos (by simpa using he)]
def behL (l : List Bool) (r : List Step) : List Bool := r.foldl (fun l x => setL l x.strokes) l
theorem behL_cons (l : List Bool) (x : Step) (r : List Step) : behL l (x :: r) = behL (setL l x.strokes) r := rfl
theorem behL_app (l : List Bool) (a b : List Step) : behL l (a ++ b) = behL (behL l a) b := by simp [behL]
theorem behL_len : ∀ (r : List Step) (l : List Bool), (behL l r).length = l.length
 | [], l => rfl
 | x :: r, l => by rw [behL_cons, behL_len r, setL_len]
theorem runE_beh {n : Int} : ∀ (r : List Step) (l : List Bool), (runE n l r).1 = 0 → (runE n l r).2 = behL l r ∧ ∀ pre x q, r = pre ++ x :: q → fitE n x (behL l pre) = 0
 | [], l, _ => ⟨rfl, fun pre x q e => by simp at e⟩
 | y :: r, l, h => by
  by_cases hz : fitE n y l = 0
  · have hr : runE n l (y :: r) = runE n (setL l y.strokes) r := by rw [runE, if_neg (fun q => q hz)]
    rw [hr] at h ⊢
    obtain ⟨h1, h2⟩ := runE_beh r _ h
    refine ⟨h1, fun pre x q e => ?_⟩
    cases pre with
    | nil => obtain ⟨rfl, _⟩ := List.cons.inj e; exact hz
    | cons z pre =>
     obtain ⟨rfl, e2⟩ := List.cons.inj e
     exact h2 pre x q e2
  · rw [runE, if_pos hz] at h
    exact absurd h hz
structure RightS (s : Sequence) : Prop where
 n0 : 1 ≤ s.actuators
 n1 : s.actuators ≤ 6
 l0 : s.steps ≠ []
 l1 : s.steps.length ≤ 64
 good : ∀ x ∈ s.steps, GoodS x ∧ ∀ y ∈ x.strokes, y.actuator < s.actuators
 fit : ∀ pre x q, s.steps = pre ++ x :: q → suitsB x (behL (zeros s.actuators.toNat) pre) = true
 last : true ∉ behL (zeros s.actuators.toNat) s.steps
 all : allMove s.actuators (flat s.steps) = true
theorem checkE_zero {s : Sequence} (h : checkE s = 0) : RightS s := by
 unfold checkE at h
 split at h
 · cases h
 · split at h
   · cases h
   · split at h
     · cases h
     · split at h
       · rename_i q; exact absurd h q
       · rename_i a b c d
         have d := Decidable.not_not.1 d
         split at h
         · cases h
         · split at h
           · rename_i e f
             obtain ⟨h1, h2⟩ := runE_beh _ _ d
             rw [h1] at e
             exact ⟨by omega, by omega, fun q => b (by rw [q]; rfl), by omega, runE_good _ _ d, fun pre x q k => (fitE_zero (h2 pre x q k)).2.2, e, f⟩
           · cases h
def beh (s : Sequence) (k : Nat) : List Bool := behL (zeros s.actuators.toNat) (s.steps.take k)
theorem beh_len (s : Sequence) (k : Nat) : (beh s k).length = s.actuators.toNat := by rw [beh, behL_len, zeros_len]
end Go.Proofs.YtkgijoddkibapaaGreatDoor.W
