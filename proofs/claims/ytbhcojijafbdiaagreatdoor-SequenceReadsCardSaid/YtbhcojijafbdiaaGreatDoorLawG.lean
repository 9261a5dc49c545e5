/- The plain laws of strokes, seventh part: ends; the laws of Fits, Returns, Moves, Checks, Reads. No program in sight. -/
import Derived.Test.YtbhcojijafbdiaaGreatDoorLawF
set_option linter.unusedVariables false
set_option linter.unusedSimpArgs false
set_option maxHeartbeats 2000000
namespace Go.Proofs.YtbhcojijafbdiaaGreatDoor.W
open Go Go.RowKit
def setL (l : List Bool) : List Stroke → List Bool
  | [] => l
  | y :: r => setL (l.set y.actuator.toNat y.out) r
theorem setL_len : ∀ (r : List Stroke) (l : List Bool), (setL l r).length = l.length
  | [], l => rfl
  | y :: r, l => by rw [setL, setL_len r, List.length_set]
def suit1 (ends : List Bool) (y : Stroke) : Bool := match ends[y.actuator.toNat]? with | none => false | some b => b != y.out
def suitsB (x : Step) (ends : List Bool) : Bool := x.strokes.all (suit1 ends)
theorem lfits_loop (x : Step) (ends : List Bool) (hl : x.strokes.length ≤ 100) (hp : ∀ y ∈ x.strokes, 0 ≤ y.actuator) : ∀ (r pre : List Stroke), x.strokes = pre ++ r → stroke_fits_loop1 x ends (some true) (r.length + 1) (pre.length : Int) = some (r.all (suit1 ends))
  | [], pre, e => by
    unfold stroke_fits_loop1
    rw [e, ge_end]
    simp
  | y :: r, pre, e => by
    have hlen : x.strokes.length = pre.length + (r.length + 1) := by rw [e]; simp
    have hat : at? x.strokes (pre.length : Int) = some y := by rw [e]; exact at?_mid
    have h0 := hp y (by rw [e]; simp)
    have ih := lfits_loop x ends hl hp r (pre ++ [y]) (by rw [e, mid_cons])
    have e2 : (((pre ++ [y]).length : Nat) : Int) = (pre.length : Int) + 1 := by simp
    rw [e2] at ih
    unfold stroke_fits_loop1
    rw [if_pos (by rw [decide_eq_true_eq]; omega), hat, Option.bind_some, wrap64 (x := (pre.length : Int) + 1) (by omega) (by omega), List.length_cons, ih, List.all_cons]
    have hs : suit1 ends y = match ends[y.actuator.toNat]? with | none => false | some b => b != y.out := rfl
    by_cases hlt : y.actuator.toNat < ends.length
    · have hg := List.getElem?_eq_getElem hlt
      have ha : at? ends y.actuator = some ends[y.actuator.toNat] := by unfold at?; rw [if_pos h0, hg]
      rw [if_neg (by rw [decide_eq_true_eq]; omega), ha, hs, hg]
      simp only [Option.bind_some]
      have c1 : decide ((pre.length : Int) ≥ 0) = true := decide_eq_true (by omega)
      rw [c1]
      cases ends[y.actuator.toNat] <;> cases y.out <;> simp
    · have hg : ends[y.actuator.toNat]? = none := List.getElem?_eq_none (by omega)
      have c1 : decide ((pre.length : Int) ≥ 0) = true := decide_eq_true (by omega)
      rw [if_pos (by rw [decide_eq_true_eq]; omega), hs, hg, c1]
      simp
theorem lfits_eq (x : Step) (ends : List Bool) (g : GoodS x) : stroke_fits x ends = some (suitsB x ends) := by
  unfold stroke_fits joinK
  dsimp only
  rw [fuel0]
  have hf := g.few
  exact lfits_loop x ends (by omega) (fun y hy => (asc_mem g.asc y hy).1) x.strokes [] rfl
theorem rsuits_loop (x : Step) (ends : List Bool) (hl : x.strokes.length ≤ 100) (hp : ∀ y ∈ x.strokes, 0 ≤ y.actuator) : ∀ (r pre : List Stroke), x.strokes = pre ++ r → ref13_Suits_loop1 x ends (some true) (r.length + 1) (pre.length : Int) = some (r.all (suit1 ends))
  | [], pre, e => by
    unfold ref13_Suits_loop1
    rw [e, ge_end]
    simp
  | y :: r, pre, e => by
    have hlen : x.strokes.length = pre.length + (r.length + 1) := by rw [e]; simp
    have hat : at? x.strokes (pre.length : Int) = some y := by rw [e]; exact at?_mid
    have h0 := hp y (by rw [e]; simp)
    have ih := rsuits_loop x ends hl hp r (pre ++ [y]) (by rw [e, mid_cons])
    have e2 : (((pre ++ [y]).length : Nat) : Int) = (pre.length : Int) + 1 := by simp
    rw [e2] at ih
    unfold ref13_Suits_loop1
    rw [if_pos (by rw [decide_eq_true_eq]; omega), hat, Option.bind_some, wrap64 (x := (pre.length : Int) + 1) (by omega) (by omega), List.length_cons, ih, List.all_cons]
    have hs : suit1 ends y = match ends[y.actuator.toNat]? with | none => false | some b => b != y.out := rfl
    by_cases hlt : y.actuator.toNat < ends.length
    · have hg := List.getElem?_eq_getElem hlt
      have ha : at? ends y.actuator = some ends[y.actuator.toNat] := by unfold at?; rw [if_pos h0, hg]
      rw [if_neg (by rw [decide_eq_true_eq]; omega), ha, hs, hg]
      simp only [Option.bind_some]
      cases ends[y.actuator.toNat] <;> cases y.out <;> simp
    · have hg : ends[y.actuator.toNat]? = none := List.getElem?_eq_none (by omega)
      rw [if_pos (by rw [decide_eq_true_eq]; omega), hs, hg]
      simp
theorem rsuits_eq (x : Step) (ends : List Bool) (g : GoodS x) : ref13_Suits x ends = some (suitsB x ends) := by
  unfold ref13_Suits joinK
  dsimp only
  rw [fuel0]
  have hf := g.few
  exact rsuits_loop x ends (by omega) (fun y hy => (asc_mem g.asc y hy).1) x.strokes [] rfl
def givenE (x : Step) (ends : List Bool) : Int := if chk x ≠ 0 then chk x else if 6 < ends.length then 5 else 0
theorem given_eq (x : Step) (ends : List Bool) : stroke_given x ends = some (givenE x ends) ∧ ref13_given x ends = some (givenE x ends) := by
  unfold stroke_given ref13_given givenE
  rw [lchk_eq, rchk_eq]
  simp only [Option.bind_some]
  by_cases h : chk x = 0
  · have hn : ¬ chk x ≠ 0 := fun q => q h
    rw [if_neg (by simpa using h), if_neg hn]
    by_cases h6 : 6 < ends.length
    · rw [if_pos (by rw [decide_eq_true_eq]; omega), if_pos h6]; exact ⟨rfl, rfl⟩
    · rw [if_neg (by rw [decide_eq_true_eq]; omega), if_neg h6]; exact ⟨rfl, rfl⟩
  · have hn : chk x ≠ 0 := h
    rw [if_pos (by simpa using h), if_pos hn]; exact ⟨rfl, rfl⟩
theorem given_zero {x : Step} {ends : List Bool} : givenE x ends = 0 ↔ GoodS x ∧ ends.length ≤ 6 := by
  unfold givenE
  by_cases h : chk x = 0
  · rw [if_neg (fun q => q h)]
    constructor
    · intro q
      split at q
      · cases q
      · exact ⟨chk_zero.1 h, by omega⟩
    · rintro ⟨_, q⟩
      rw [if_neg (by omega)]
  · rw [if_pos h]
    constructor
    · intro q; exact absurd q h
    · rintro ⟨q, _⟩; exact absurd (chk_zero.2 q) h
theorem suit_lt {ends : List Bool} {y : Stroke} (h : suit1 ends y = true) : y.actuator.toNat < ends.length ∧ ends[y.actuator.toNat]? = some (!y.out) := by
  unfold suit1 at h
  split at h
  · cases h
  · rename_i b hb
    refine ⟨(List.getElem?_eq_some_iff.1 hb).1, ?_⟩
    rw [hb]
    congr 1
    cases b <;> cases hy : y.out <;> simp_all
theorem lapply_loop (x : Step) (hl : x.strokes.length ≤ 100) (k : List Bool → Option (List Bool × Int)) : ∀ (r pre : List Stroke) (l : List Bool), x.strokes = pre ++ r → (∀ y ∈ r, 0 ≤ y.actuator ∧ y.actuator.toNat < l.length) →
    stroke_Apply_loop1 x k (r.length + 1) (pre.length : Int) l = k (setL l r)
  | [], pre, l, e, _ => by
    unfold stroke_Apply_loop1
    rw [e, ge_end]
    simp [setL]
  | y :: r, pre, l, e, hp => by
    have hlen : x.strokes.length = pre.length + (r.length + 1) := by rw [e]; simp
    have hat : at? x.strokes (pre.length : Int) = some y := by rw [e]; exact at?_mid
    obtain ⟨h0, hlt⟩ := hp y (by simp)
    have ha : at? l y.actuator = some l[y.actuator.toNat] := by unfold at?; rw [if_pos h0, List.getElem?_eq_getElem hlt]
    have ih := lapply_loop x hl k r (pre ++ [y]) (l.set y.actuator.toNat y.out) (by rw [e, mid_cons]) (fun z hz => by rw [List.length_set]; exact hp z (by simp [hz]))
    have e2 : (((pre ++ [y]).length : Nat) : Int) = (pre.length : Int) + 1 := by simp
    rw [e2] at ih
    unfold stroke_Apply_loop1
    rw [if_pos (by rw [decide_eq_true_eq]; omega), hat, Option.bind_some, ha, Option.bind_some, wrap64 (x := (pre.length : Int) + 1) (by omega) (by omega), List.length_cons, ih, setL]
theorem rafter_loop (x : Step) (hl : x.strokes.length ≤ 100) (k : List Bool → Option (List Bool)) : ∀ (r pre : List Stroke) (l : List Bool), x.strokes = pre ++ r → (∀ y ∈ r, 0 ≤ y.actuator ∧ y.actuator.toNat < l.length) →
    ref13_After_loop1 x k (r.length + 1) (pre.length : Int) l = k (setL l r)
  | [], pre, l, e, _ => by
    unfold ref13_After_loop1
    rw [e, ge_end]
    simp [setL]
  | y :: r, pre, l, e, hp => by
    have hlen : x.strokes.length = pre.length + (r.length + 1) := by rw [e]; simp
    have hat : at? x.strokes (pre.length : Int) = some y := by rw [e]; exact at?_mid
    obtain ⟨h0, hlt⟩ := hp y (by simp)
    have ha : at? l y.actuator = some l[y.actuator.toNat] := by unfold at?; rw [if_pos h0, List.getElem?_eq_getElem hlt]
    have ih := rafter_loop x hl k r (pre ++ [y]) (l.set y.actuator.toNat y.out) (by rw [e, mid_cons]) (fun z hz => by rw [List.length_set]; exact hp z (by simp [hz]))
    have e2 : (((pre ++ [y]).length : Nat) : Int) = (pre.length : Int) + 1 := by simp
    rw [e2] at ih
    unfold ref13_After_loop1
    rw [if_pos (by rw [decide_eq_true_eq]; omega), hat]
    simp only [Option.bind_some]
    rw [ha, Option.bind_some, wrap64 (x := (pre.length : Int) + 1) (by omega) (by omega), List.length_cons, ih, setL]
theorem suits_all {x : Step} {ends : List Bool} (g : GoodS x) (h : suitsB x ends = true) : ∀ y ∈ x.strokes, 0 ≤ y.actuator ∧ y.actuator.toNat < ends.length := fun y hy =>
  ⟨(asc_mem g.asc y hy).1, (suit_lt (List.all_eq_true.1 h y hy)).1⟩
theorem rafter_eq {x : Step} {ends : List Bool} (hl : x.strokes.length ≤ 100) (hp : ∀ y ∈ x.strokes, 0 ≤ y.actuator ∧ y.actuator.toNat < ends.length) (he : ends.length ≤ 1000) : ref13_After x ends = some (setL ends x.strokes) := by
  unfold ref13_After joinK
  dsimp only
  rw [appO_ok (by simp; omega) (by decide), Option.bind_some, fuel0, List.nil_append]
  exact rafter_loop x hl _ x.strokes [] ends rfl hp
def applyR (x : Step) (ends : List Bool) : List Bool × Int := if givenE x ends ≠ 0 then ([], givenE x ends) else if suitsB x ends = true then (setL ends x.strokes, 0) else ([], 14)
theorem lapply_eq (x : Step) (ends : List Bool) : stroke_Apply x ends = some (applyR x ends) := by
  unfold stroke_Apply applyR
  rw [(given_eq x ends).1, Option.bind_some]
  by_cases h : givenE x ends = 0
  · have hn : ¬ givenE x ends ≠ 0 := fun q => q h
    obtain ⟨g, he⟩ := given_zero.1 h
    have hf := g.few
    rw [if_neg (by simpa using h), if_neg hn, lfits_eq x ends g, Option.bind_some]
    cases hs : suitsB x ends
    · rw [if_pos (by simp), if_neg (by simp)]
    · rw [if_neg (by simp), if_pos rfl, appO_ok (by simp; omega) (by decide), Option.bind_some]
      unfold joinK
      dsimp only
      rw [fuel0]
      exact lapply_loop x (by omega) _ x.strokes [] ends rfl (suits_all g hs)
  · have hn : givenE x ends ≠ 0 := h
    rw [if_pos (by simpa using h), if_pos hn]
theorem eqB_loop (l : List Bool) (k : Option Bool) (hb : l.length ≤ 100000) : ∀ (r pre : List Bool), l = pre ++ r → slices_Equal_boolbool_loop1 l l k (r.length + 1) (pre.length : Int) = k
  | [], pre, e => by
    unfold slices_Equal_boolbool_loop1
    rw [e, ge_end]
    simp
  | x :: r, pre, e => by
    unfold slices_Equal_boolbool_loop1
    rw [e, lt_mid, if_pos rfl, at?_mid, Option.bind_some, Option.bind_some, wrap_mid (x := x) (r := r) (by rw [← e]; omega), ← e]
    simp only [BEq.rfl, Bool.not_true, Bool.false_eq_true, if_false]
    exact eqB_loop l k hb r (pre ++ [x]) (by rw [e, mid_cons])
theorem eqB_eq (l : List Bool) (hb : l.length ≤ 100000) : slices_Equal_boolbool l l = some true := by
  unfold slices_Equal_boolbool joinK
  dsimp only
  rw [if_neg (by simp), fuel0]
  exact eqB_loop l (some true) hb l [] rfl
/-! ### ends behind a step -/
theorem way_none {n : Int} : ∀ {r : List Stroke} {last : Int}, Asc last r → n ≤ last → wayS n r = 0
  | [], _, _, _ => rfl
  | y :: r, last, h, hn => by
    have h3 := h.2.2.1
    rw [wayS, if_neg (by omega)]
    exact way_none h.2.2.2 (by omega)
theorem setL_get : ∀ (r : List Stroke) (last : Int) (l : List Bool), Asc last r → ∀ i : Nat, i < l.length →
    (setL l r)[i]? = if wayS (i : Int) r = 1 then some true else if wayS (i : Int) r = -1 then some false else l[i]?
  | [], last, l, _, i, _ => by simp [setL, wayS]
  | y :: r, last, l, h, i, hi => by
    obtain ⟨h0, h1, h2, h3⟩ := h
    rw [setL, setL_get r y.actuator (l.set y.actuator.toNat y.out) h3 i (by rw [List.length_set]; exact hi), wayS]
    by_cases ha : y.actuator = (i : Int)
    · rw [if_pos ha, way_none h3 (by omega)]
      have e : y.actuator.toNat = i := by omega
      rw [if_neg (by decide), if_neg (by decide), e, List.getElem?_set_self hi]
      cases y.out <;> simp
    · rw [if_neg ha, List.getElem?_set_ne (by omega)]
theorem way_mem (n : Int) : ∀ r : List Stroke, (wayS n r = 1 ∧ ∃ y ∈ r, y.actuator = n ∧ y.out = true) ∨ (wayS n r = -1 ∧ ∃ y ∈ r, y.actuator = n ∧ y.out = false) ∨ wayS n r = 0
  | [] => .inr (.inr rfl)
  | y :: r => by
    rw [wayS]
    by_cases ha : y.actuator = n
    · rw [if_pos ha]
      cases ho : y.out
      · exact .inr (.inl ⟨by simp, y, by simp, ha, ho⟩)
      · exact .inl ⟨by simp, y, by simp, ha, ho⟩
    · rw [if_neg ha]
      rcases way_mem n r with ⟨h, z, hz, q⟩ | ⟨h, z, hz, q⟩ | h
      · exact .inl ⟨h, z, by simp [hz], q⟩
      · exact .inr (.inl ⟨h, z, by simp [hz], q⟩)
      · exact .inr (.inr h)
theorem suits_at {x : Step} {ends : List Bool} (h : suitsB x ends = true) {y : Stroke} (hy : y ∈ x.strokes) {i : Nat} (hi : y.actuator = (i : Int)) : ends[i]? = some (!y.out) := by
  have := (suit_lt (List.all_eq_true.1 h y hy)).2
  have e : y.actuator.toNat = i := by omega
  rwa [e] at this
/-! ### opposite strokes -/
def turn (y : Stroke) : Stroke := ⟨y.actuator, !y.out⟩
/-! ### texts -/
end Go.Proofs.YtbhcojijafbdiaaGreatDoor.W
