/- The plain laws of strokes, seventh part: ends; the laws of Fits, Returns, Moves, Checks, Reads. No program in sight. -/
import Derived.Test.YtcgmhlakihjbkaaGreatDoorLawS
set_option linter.unusedVariables false
set_option linter.unusedSimpArgs false
set_option maxHeartbeats 2000000
namespace Go.Proofs.YtcgmhlakihjbkaaGreatDoor.W
open Go Go.RowKit
def setL (l : List Bool) : List Stroke → List Bool
  | [] => l
  | y :: r => setL (l.set y.actuator.toNat y.out) r
theorem setL_len : ∀ (r : List Stroke) (l : List Bool), (setL l r).length = l.length
  | [], l => rfl
  | y :: r, l => by rw [setL, setL_len r, List.length_set]
def suit1 (ends : List Bool) (y : Stroke) : Bool := match ends[y.actuator.toNat]? with | none => false | some b => b != y.out
def suitsB (x : Step) (ends : List Bool) : Bool := x.strokes.all (suit1 ends)
theorem rsuits_loop (x : Step) (ends : List Bool) (hl : x.strokes.length ≤ 100) (hp : ∀ y ∈ x.strokes, 0 ≤ y.actuator) : ∀ (r pre : List Stroke), x.strokes = pre ++ r → ref13_Suits_loop1 x ends (some true) (r.length + 1) (pre.length : Int) = some (r.all (suit1 ends))
  | [], pre, e => by
    unfold ref13_Suits_loop1
    rw [e, ge_end]
    simp
  | y :: r, pre, e => by
    have hlen : x.strokes.length = pre.length + (r.length + 1) := by rw [e]; simp
    have hat : at? x.strokes (pre.length : Int) = some y := by rw [e]; exact at?_mid
    have h0 := hp y (by rw [e]; simp)
    have ih := rsuits_loop x ends hl hp r (pre ++ [y]) (by rw [e, mid_cons])
    have e2 : (((pre ++ [y]).length : Nat) : Int) = (pre.length : Int) + 1 := by simp
    rw [e2] at ih
    unfold ref13_Suits_loop1
    rw [if_pos (by rw [decide_eq_true_eq]; omega), hat, Option.bind_some, wrap64 (x := (pre.length : Int) + 1) (by omega) (by omega), List.length_cons, ih, List.all_cons]
    have hs : suit1 ends y = match ends[y.actuator.toNat]? with | none => false | some b => b != y.out := rfl
    by_cases hlt : y.actuator.toNat < ends.length
    · have hg := List.getElem?_eq_getElem hlt
      have ha : at? ends y.actuator = some ends[y.actuator.toNat] := by unfold at?; rw [if_pos h0, hg]
      rw [if_neg (by rw [decide_eq_true_eq]; omega), ha, hs, hg]
      simp only [Option.bind_some]
      cases ends[y.actuator.toNat] <;> cases y.out <;> simp
    · have hg : ends[y.actuator.toNat]? = none := List.getElem?_eq_none (by omega)
      rw [if_pos (by rw [decide_eq_true_eq]; omega), hs, hg]
      simp
theorem rsuits_eq (x : Step) (ends : List Bool) (g : GoodS x) : ref13_Suits x ends = some (suitsB x ends) := by
  unfold ref13_Suits joinK
  dsimp only
  rw [fuel0]
  have hf := g.few
  exact rsuits_loop x ends (by omega) (fun y hy => (asc_mem g.asc y hy).1) x.strokes [] rfl
theorem suit_lt {ends : List Bool} {y : Stroke} (h : suit1 ends y = true) : y.actuator.toNat < ends.length ∧ ends[y.actuator.toNat]? = some (!y.out) := by
  unfold suit1 at h
  split at h
  · cases h
  · rename_i b hb
    refine ⟨(List.getElem?_eq_some_iff.1 hb).1, ?_⟩
    rw [hb]
    congr 1
    cases b <;> cases hy : y.out <;> simp_all
theorem rafter_loop (x : Step) (hl : x.strokes.length ≤ 100) (k : List Bool → Option (List Bool)) : ∀ (r pre : List Stroke) (l : List Bool), x.strokes = pre ++ r → (∀ y ∈ r, 0 ≤ y.actuator ∧ y.actuator.toNat < l.length) →
    ref13_After_loop1 x k (r.length + 1) (pre.length : Int) l = k (setL l r)
  | [], pre, l, e, _ => by
    unfold ref13_After_loop1
    rw [e, ge_end]
    simp [setL]
  | y :: r, pre, l, e, hp => by
    have hlen : x.strokes.length = pre.length + (r.length + 1) := by rw [e]; simp
    have hat : at? x.strokes (pre.length : Int) = some y := by rw [e]; exact at?_mid
    obtain ⟨h0, hlt⟩ := hp y (by simp)
    have ha : at? l y.actuator = some l[y.actuator.toNat] := by unfold at?; rw [if_pos h0, List.getElem?_eq_getElem hlt]
    have ih := rafter_loop x hl k r (pre ++ [y]) (l.set y.actuator.toNat y.out) (by rw [e, mid_cons]) (fun z hz => by rw [List.length_set]; exact hp z (by simp [hz]))
    have e2 : (((pre ++ [y]).length : Nat) : Int) = (pre.length : Int) + 1 := by simp
    rw [e2] at ih
    unfold ref13_After_loop1
    rw [if_pos (by rw [decide_eq_true_eq]; omega), hat]
    simp only [Option.bind_some]
    rw [ha, Option.bind_some, wrap64 (x := (pre.length : Int) + 1) (by omega) (by omega), List.length_cons, ih, setL]
theorem suits_all {x : Step} {ends : List Bool} (g : GoodS x) (h : suitsB x ends = true) : ∀ y ∈ x.strokes, 0 ≤ y.actuator ∧ y.actuator.toNat < ends.length := fun y hy =>
  ⟨(asc_mem g.asc y hy).1, (suit_lt (List.all_eq_true.1 h y hy)).1⟩
theorem rafter_eq {x : Step} {ends : List Bool} (hl : x.strokes.length ≤ 100) (hp : ∀ y ∈ x.strokes, 0 ≤ y.actuator ∧ y.actuator.toNat < ends.length) (he : ends.length ≤ 1000) : ref13_After x ends = some (setL ends x.strokes) := by
  unfold ref13_After joinK
  dsimp only
  rw [appO_ok (by simp; omega) (by decide), Option.bind_some, fuel0, List.nil_append]
  exact rafter_loop x hl _ x.strokes [] ends rfl hp
/-! ### ends behind a step -/
/-! ### opposite strokes -/
def turn (y : Stroke) : Stroke := ⟨y.actuator, !y.out⟩
theorem check_eq (y : Stroke) : stroke_Check y = some (if 0 ≤ y.actuator ∧ y.actuator < 6 then 0 else 2) ∧ ref13_Check y = some (if 0 ≤ y.actuator ∧ y.actuator < 6 then 0 else 2) := by
  unfold stroke_Check ref13_Check
  rw [(known_eq _).1, (known_eq _).2]
  by_cases h : 0 ≤ y.actuator ∧ y.actuator < 6
  · rw [decide_eq_true h, if_pos h]; exact ⟨rfl, rfl⟩
  · rw [decide_eq_false h, if_neg h]; exact ⟨rfl, rfl⟩
/-! ### texts -/
end Go.Proofs.YtcgmhlakihjbkaaGreatDoor.W
