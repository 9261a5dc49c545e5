/- The plain laws of strokes, seventh part: ends; the laws of Fits, Returns, Moves, Checks, Reads. No program in sight. -/
import Derived.Test.YtbiifgojhljkjaaDoorLawF
set_option linter.unusedVariables false
set_option linter.unusedSimpArgs false
set_option maxHeartbeats 2000000
namespace Go.Proofs.YtbiifgojhljkjaaDoor.W
open Go Go.RowKit
def setL (l : List Bool) : List Stroke → List Bool
  | [] => l
  | y :: r => setL (l.set y.actuator.toNat y.out) r
theorem setL_len : ∀ (r : List Stroke) (l : List Bool), (setL l r).length = l.length
  | [], l => rfl
  | y :: r, l => by rw [setL, setL_len r, List.length_set]
def suit1 (ends : List Bool) (y : Stroke) : Bool := match ends[y.actuator.toNat]? with | none => false | some b => b != y.out
def suitsB (x : Step) (ends : List Bool) : Bool := x.strokes.all (suit1 ends)
theorem lfits_loop (x : Step) (ends : List Bool) (hl : x.strokes.length ≤ 100) (hp : ∀ y ∈ x.strokes, 0 ≤ y.actuator) : ∀ (r pre : List Stroke), x.strokes = pre ++ r → stroke_fits_loop1 x ends (some true) (r.length + 1) (pre.length : Int) = some (r.all (suit1 ends))
  | [], pre, e => by
    unfold stroke_fits_loop1
    rw [e, ge_end]
    simp
  | y :: r, pre, e => by
    have hlen : x.strokes.length = pre.length + (r.length + 1) := by rw [e]; simp
    have hat : at? x.strokes (pre.length : Int) = some y := by rw [e]; exact at?_mid
    have h0 := hp y (by rw [e]; simp)
    have ih := lfits_loop x ends hl hp r (pre ++ [y]) (by rw [e, mid_cons])
    have e2 : (((pre ++ [y]).length : Nat) : Int) = (pre.length : Int) + 1 := by simp
    rw [e2] at ih
    unfold stroke_fits_loop1
    rw [if_pos (by rw [decide_eq_true_eq]; omega), hat, Option.bind_some, wrap64 (x := (pre.length : Int) + 1) (by omega) (by omega), List.length_cons, ih, List.all_cons]
    have hs : suit1 ends y = match ends[y.actuator.toNat]? with | none => false | some b => b != y.out := rfl
    by_cases hlt : y.actuator.toNat < ends.length
    · have hg := List.getElem?_eq_getElem hlt
      have ha : at? ends y.actuator = some ends[y.actuator.toNat] := by unfold at?; rw [if_pos h0, hg]
      rw [if_neg (by rw [decide_eq_true_eq]; omega), ha, hs, hg]
      simp only [Option.bind_some]
      have c1 : decide ((pre.length : Int) ≥ 0) = true := decide_eq_true (by omega)
      rw [c1]
      cases ends[y.actuator.toNat] <;> cases y.out <;> simp
    · have hg : ends[y.actuator.toNat]? = none := List.getElem?_eq_none (by omega)
      have c1 : decide ((pre.length : Int) ≥ 0) = true := decide_eq_true (by omega)
      rw [if_pos (by rw [decide_eq_true_eq]; omega), hs, hg, c1]
      simp
theorem lfits_eq (x : Step) (ends : List Bool) (g : GoodS x) : stroke_fits x ends = some (suitsB x ends) := by
  unfold stroke_fits joinK
  dsimp only
  rw [fuel0]
  have hf := g.few
  exact lfits_loop x ends (by omega) (fun y hy => (asc_mem g.asc y hy).1) x.strokes [] rfl
theorem rsuits_loop (x : Step) (ends : List Bool) (hl : x.strokes.length ≤ 100) (hp : ∀ y ∈ x.strokes, 0 ≤ y.actuator) : ∀ (r pre : List Stroke), x.strokes = pre ++ r → ref13_Suits_loop1 x ends (some true) (r.length + 1) (pre.length : Int) = some (r.all (suit1 ends))
  | [], pre, e => by
    unfold ref13_Suits_loop1
    rw [e, ge_end]
    simp
  | y :: r, pre, e => by
    have hlen : x.strokes.length = pre.length + (r.length + 1) := by rw [e]; simp
    have hat : at? x.strokes (pre.length : Int) = some y := by rw [e]; exact at?_mid
    have h0 := hp y (by rw [e]; simp)
    have ih := rsuits_loop x ends hl hp r (pre ++ [y]) (by rw [e, mid_cons])
    have e2 : (((pre ++ [y]).length : Nat) : Int) = (pre.length : Int) + 1 := by simp
    rw [e2] at ih
    unfold ref13_Suits_loop1
    rw [if_pos (by rw [decide_eq_true_eq]; omega), hat, Option.bind_some, wrap64 (x := (pre.length : Int) + 1) (by omega) (by omega), List.length_cons, ih, List.all_cons]
    have hs : suit1 ends y = match ends[y.actuator.toNat]? with | none => false | some b => b != y.out := rfl
    by_cases hlt : y.actuator.toNat < ends.length
    · have hg := List.getElem?_eq_getElem hlt
      have ha : at? ends y.actuator = some ends[y.actuator.toNat] := by unfold at?; rw [if_pos h0, hg]
      rw [if_neg (by rw [decide_eq_true_eq]; omega), ha, hs, hg]
      simp only [Option.bind_some]
      cases ends[y.actuator.toNat] <;> cases y.out <;> simp
    · have hg : ends[y.actuator.toNat]? = none := List.getElem?_eq_none (by omega)
      rw [if_pos (by rw [decide_eq_true_eq]; omega), hs, hg]
      simp
theorem rsuits_eq (x : Step) (ends : List Bool) (g : GoodS x) : ref13_Suits x ends = some (suitsB x ends) := by
  unfold ref13_Suits joinK
  dsimp only
  rw [fuel0]
  have hf := g.few
  exact rsuits_loop x ends (by omega) (fun y hy => (asc_mem g.asc y hy).1) x.strokes [] rfl
def givenE (x : Step) (ends : List Bool) : Int := if chk x ≠ 0 then chk x else if 6 < ends.length then 5 else 0
theorem given_eq (x : Step) (ends : List Bool) : stroke_given x ends = some (givenE x ends) ∧ ref13_given x ends = some (givenE x ends) := by
  unfold stroke_given ref13_given givenE
  rw [lchk_eq, rchk_eq]
  simp only [Option.bind_some]
  by_cases h : chk x = 0
  · have hn : ¬ chk x ≠ 0 := fun q => q h
    rw [if_neg (by simpa using h), if_neg hn]
    by_cases h6 : 6 < ends.length
    · rw [if_pos (by rw [decide_eq_true_eq]; omega), if_pos h6]; exact ⟨rfl, rfl⟩
    · rw [if_neg (by rw [decide_eq_true_eq]; omega), if_neg h6]; exact ⟨rfl, rfl⟩
  · have hn : chk x ≠ 0 := h
    rw [if_pos (by simpa using h), if_pos hn]; exact ⟨rfl, rfl⟩
theorem given_zero {x : Step} {ends : List Bool} : givenE x ends = 0 ↔ GoodS x ∧ ends.length ≤ 6 := by
  unfold givenE
  by_cases h : chk x = 0
  · rw [if_neg (fun q => q h)]
    constructor
    · intro q
      split at q
      · cases q
      · exact ⟨chk_zero.1 h, by omega⟩
    · rintro ⟨_, q⟩
      rw [if_neg (by omega)]
  · rw [if_pos h]
    constructor
    · intro q; exact absurd q h
    · rintro ⟨q, _⟩; exact absurd (chk_zero.2 q) h
theorem suit_lt {ends : List Bool} {y : Stroke} (h : suit1 ends y = true) : y.actuator.toNat < ends.length ∧ ends[y.actuator.toNat]? = some (!y.out) := by
  unfold suit1 at h
  split at h
  · cases h
  · rename_i b hb
    refine ⟨(List.getElem?_eq_some_iff.1 hb).1, ?_⟩
    rw [hb]
    congr 1
    cases b <;> cases hy : y.out <;> simp_all
theorem lapply_loop (x : Step) (hl : x.strokes.length ≤ 100) (k : List Bool → Option (List Bool × Int)) : ∀ (r pre : List Stroke) (l : List Bool), x.strokes = pre ++ r → (∀ y ∈ r, 0 ≤ y.actuator ∧ y.actuator.toNat < l.length) →
    stroke_Apply_loop1 x k (r.length + 1) (pre.length : Int) l = k (setL l r)
  | [], pre, l, e, _ => by
    unfold stroke_Apply_loop1
    rw [e, ge_end]
    simp [setL]
  | y :: r, pre, l, e, hp => by
    have hlen : x.strokes.length = pre.length + (r.length + 1) := by rw [e]; simp
    have hat : at? x.strokes (pre.length : Int) = some y := by rw [e]; exact at?_mid
    obtain ⟨h0, hlt⟩ := hp y (by simp)
    have ha : at? l y.actuator = some l[y.actuator.toNat] := by unfold at?; rw [if_pos h0, List.getElem?_eq_getElem hlt]
    have ih := lapply_loop x hl k r (pre ++ [y]) (l.set y.actuator.toNat y.out) (by rw [e, mid_cons]) (fun z hz => by rw [List.length_set]; exact hp z (by simp [hz]))
    have e2 : (((pre ++ [y]).length : Nat) : Int) = (pre.length : Int) + 1 := by simp
    rw [e2] at ih
    unfold stroke_Apply_loop1
    rw [if_pos (by rw [decide_eq_true_eq]; omega), hat, Option.bind_some, ha, Option.bind_some, wrap64 (x := (pre.length : Int) + 1) (by omega) (by omega), List.length_cons, ih, setL]
theorem rafter_loop (x : Step) (hl : x.strokes.length ≤ 100) (k : List Bool → Option (List Bool)) : ∀ (r pre : List Stroke) (l : List Bool), x.strokes = pre ++ r → (∀ y ∈ r, 0 ≤ y.actuator ∧ y.actuator.toNat < l.length) →
    ref13_After_loop1 x k (r.length + 1) (pre.length : Int) l = k (setL l r)
  | [], pre, l, e, _ => by
    unfold ref13_After_loop1
    rw [e, ge_end]
    simp [setL]
  | y :: r, pre, l, e, hp => by
    have hlen : x.strokes.length = pre.length + (r.length + 1) := by rw [e]; simp
    have hat : at? x.strokes (pre.length : Int) = some y := by rw [e]; exact at?_mid
    obtain ⟨h0, hlt⟩ := hp y (by simp)
    have ha : at? l y.actuator = some l[y.actuator.toNat] := by unfold at?; rw [if_pos h0, List.getElem?_eq_getElem hlt]
    have ih := rafter_loop x hl k r (pre ++ [y]) (l.set y.actuator.toNat y.out) (by rw [e, mid_cons]) (fun z hz => by rw [List.length_set]; exact hp z (by simp [hz]))
    have e2 : (((pre ++ [y]).length : Nat) : Int) = (pre.length : Int) + 1 := by simp
    rw [e2] at ih
    unfold ref13_After_loop1
    rw [if_pos (by rw [decide_eq_true_eq]; omega), hat]
    simp only [Option.bind_some]
    rw [ha, Option.bind_some, wrap64 (x := (pre.length : Int) + 1) (by omega) (by omega), List.length_cons, ih, setL]
theorem suits_all {x : Step} {ends : List Bool} (g : GoodS x) (h : suitsB x ends = true) : ∀ y ∈ x.strokes, 0 ≤ y.actuator ∧ y.actuator.toNat < ends.length := fun y hy =>
  ⟨(asc_mem g.asc y hy).1, (suit_lt (List.all_eq_true.1 h y hy)).1⟩
theorem rafter_eq {x : Step} {ends : List Bool} (hl : x.strokes.length ≤ 100) (hp : ∀ y ∈ x.strokes, 0 ≤ y.actuator ∧ y.actuator.toNat < ends.length) (he : ends.length ≤ 1000) : ref13_After x ends = some (setL ends x.strokes) := by
  unfold ref13_After joinK
  dsimp only
  rw [appO_ok (by simp; omega) (by decide), Option.bind_some, fuel0, List.nil_append]
  exact rafter_loop x hl _ x.strokes [] ends rfl hp
def applyR (x : Step) (ends : List Bool) : List Bool × Int := if givenE x ends ≠ 0 then ([], givenE x ends) else if suitsB x ends = true then (setL ends x.strokes, 0) else ([], 14)
def fitsR (x : Step) (ends : List Bool) : Bool × Int := if givenE x ends ≠ 0 then (false, givenE x ends) else (suitsB x ends, 0)
theorem lapply_eq (x : Step) (ends : List Bool) : stroke_Apply x ends = some (applyR x ends) := by
  unfold stroke_Apply applyR
  rw [(given_eq x ends).1, Option.bind_some]
  by_cases h : givenE x ends = 0
  · have hn : ¬ givenE x ends ≠ 0 := fun q => q h
    obtain ⟨g, he⟩ := given_zero.1 h
    have hf := g.few
    rw [if_neg (by simpa using h), if_neg hn, lfits_eq x ends g, Option.bind_some]
    cases hs : suitsB x ends
    · rw [if_pos (by simp), if_neg (by simp)]
    · rw [if_neg (by simp), if_pos rfl, appO_ok (by simp; omega) (by decide), Option.bind_some]
      unfold joinK
      dsimp only
      rw [fuel0]
      exact lapply_loop x (by omega) _ x.strokes [] ends rfl (suits_all g hs)
  · have hn : givenE x ends ≠ 0 := h
    rw [if_pos (by simpa using h), if_pos hn]
theorem rapply_eq (x : Step) (ends : List Bool) : ref13_Apply x ends = some (applyR x ends) := by
  unfold ref13_Apply applyR
  rw [(given_eq x ends).2, Option.bind_some]
  by_cases h : givenE x ends = 0
  · have hn : ¬ givenE x ends ≠ 0 := fun q => q h
    obtain ⟨g, he⟩ := given_zero.1 h
    have hf := g.few
    rw [if_neg (by simpa using h), if_neg hn, rsuits_eq x ends g, Option.bind_some]
    cases hs : suitsB x ends
    · rw [if_pos (by simp), if_neg (by simp)]
    · rw [if_neg (by simp), if_pos rfl, rafter_eq (by omega) (suits_all g hs) (by omega)]
      rfl
  · have hn : givenE x ends ≠ 0 := h
    rw [if_pos (by simpa using h), if_pos hn]
theorem lfitsR_eq (x : Step) (ends : List Bool) : stroke_Fits x ends = some (fitsR x ends) := by
  unfold stroke_Fits fitsR
  rw [(given_eq x ends).1, Option.bind_some]
  by_cases h : givenE x ends = 0
  · have hn : ¬ givenE x ends ≠ 0 := fun q => q h
    obtain ⟨g, he⟩ := given_zero.1 h
    rw [if_neg (by simpa using h), if_neg hn, lfits_eq x ends g]
    rfl
  · have hn : givenE x ends ≠ 0 := h
    rw [if_pos (by simpa using h), if_pos hn]
theorem rfitsR_eq (x : Step) (ends : List Bool) : ref13_Fits x ends = some (fitsR x ends) := by
  unfold ref13_Fits fitsR
  rw [(given_eq x ends).2, Option.bind_some]
  by_cases h : givenE x ends = 0
  · have hn : ¬ givenE x ends ≠ 0 := fun q => q h
    obtain ⟨g, he⟩ := given_zero.1 h
    rw [if_neg (by simpa using h), if_neg hn, rsuits_eq x ends g]
    rfl
  · have hn : givenE x ends ≠ 0 := h
    rw [if_pos (by simpa using h), if_pos hn]
theorem eqB_loop (l : List Bool) (k : Option Bool) (hb : l.length ≤ 100000) : ∀ (r pre : List Bool), l = pre ++ r → slices_Equal_boolbool_loop1 l l k (r.length + 1) (pre.length : Int) = k
  | [], pre, e => by
    unfold slices_Equal_boolbool_loop1
    rw [e, ge_end]
    simp
  | x :: r, pre, e => by
    unfold slices_Equal_boolbool_loop1
    rw [e, lt_mid, if_pos rfl, at?_mid, Option.bind_some, Option.bind_some, wrap_mid (x := x) (r := r) (by rw [← e]; omega), ← e]
    simp only [BEq.rfl, Bool.not_true, Bool.false_eq_true, if_false]
    exact eqB_loop l k hb r (pre ++ [x]) (by rw [e, mid_cons])
theorem eqB_eq (l : List Bool) (hb : l.length ≤ 100000) : slices_Equal_boolbool l l = some true := by
  unfold slices_Equal_boolbool joinK
  dsimp only
  rw [if_neg (by simp), fuel0]
  exact eqB_loop l (some true) hb l [] rfl
theorem apply_len (x : Step) (ends : List Bool) : (applyR x ends).1.length ≤ ends.length := by
  unfold applyR
  split
  · simp
  · split
    · dsimp only; rw [setL_len]; exact Nat.le_refl _
    · simp
theorem few_eq (x : Step) (ends : List Bool) : ∃ b, ref13_Few x ends = some b ∧ (b = true → x.strokes.length ≤ 40 ∧ ends.length ≤ 40) := by
  refine ⟨_, rfl, fun h => ?_⟩
  rw [Bool.and_eq_true, decide_eq_true_eq, decide_eq_true_eq] at h
  omega
theorem law_Fits (x : Step) (ends : List Bool) : law13_StrokeFits x ends = some true := by
  unfold law13_StrokeFits
  obtain ⟨b, hb, k⟩ := few_eq x ends
  rw [hb, Option.bind_some, awake_true]
  cases b
  · simp
  · have := k rfl
    have hl := apply_len x ends
    rw [lfitsR_eq, rfitsR_eq, lapply_eq, rapply_eq]
    simp [eqB_eq (applyR x ends).1 (by omega)]
/-! ### ends behind a step -/
theorem way_none {n : Int} : ∀ {r : List Stroke} {last : Int}, Asc last r → n ≤ last → wayS n r = 0
  | [], _, _, _ => rfl
  | y :: r, last, h, hn => by
    have h3 := h.2.2.1
    rw [wayS, if_neg (by omega)]
    exact way_none h.2.2.2 (by omega)
theorem setL_get : ∀ (r : List Stroke) (last : Int) (l : List Bool), Asc last r → ∀ i : Nat, i < l.length →
    (setL l r)[i]? = if wayS (i : Int) r = 1 then some true else if wayS (i : Int) r = -1 then some false else l[i]?
  | [], last, l, _, i, _ => by simp [setL, wayS]
  | y :: r, last, l, h, i, hi => by
    obtain ⟨h0, h1, h2, h3⟩ := h
    rw [setL, setL_get r y.actuator (l.set y.actuator.toNat y.out) h3 i (by rw [List.length_set]; exact hi), wayS]
    by_cases ha : y.actuator = (i : Int)
    · rw [if_pos ha, way_none h3 (by omega)]
      have e : y.actuator.toNat = i := by omega
      rw [if_neg (by decide), if_neg (by decide), e, List.getElem?_set_self hi]
      cases y.out <;> simp
    · rw [if_neg ha, List.getElem?_set_ne (by omega)]
theorem way_mem (n : Int) : ∀ r : List Stroke, (wayS n r = 1 ∧ ∃ y ∈ r, y.actuator = n ∧ y.out = true) ∨ (wayS n r = -1 ∧ ∃ y ∈ r, y.actuator = n ∧ y.out = false) ∨ wayS n r = 0
  | [] => .inr (.inr rfl)
  | y :: r => by
    rw [wayS]
    by_cases ha : y.actuator = n
    · rw [if_pos ha]
      cases ho : y.out
      · exact .inr (.inl ⟨by simp, y, by simp, ha, ho⟩)
      · exact .inl ⟨by simp, y, by simp, ha, ho⟩
    · rw [if_neg ha]
      rcases way_mem n r with ⟨h, z, hz, q⟩ | ⟨h, z, hz, q⟩ | h
      · exact .inl ⟨h, z, by simp [hz], q⟩
      · exact .inr (.inl ⟨h, z, by simp [hz], q⟩)
      · exact .inr (.inr h)
theorem suits_at {x : Step} {ends : List Bool} (h : suitsB x ends = true) {y : Stroke} (hy : y ∈ x.strokes) {i : Nat} (hi : y.actuator = (i : Int)) : ends[i]? = some (!y.out) := by
  have := (suit_lt (List.all_eq_true.1 h y hy)).2
  have e : y.actuator.toNat = i := by omega
  rwa [e] at this
theorem moves_loop (x : Step) (ends : List Bool) (g : GoodS x) (he : ends.length ≤ 6) (hs : suitsB x ends = true) (k : Option Bool) : ∀ (r pre : List Bool), ends = pre ++ r → law13_StrokeMoves_loop1 x ends (setL ends x.strokes, 0) k (r.length + 1) (pre.length : Int) = k
  | [], pre, e => by
    unfold law13_StrokeMoves_loop1
    rw [e, ge_end]
    simp
  | b :: r, pre, e => by
    have hlen : ends.length = pre.length + (r.length + 1) := by rw [e]; simp
    have hat : at? ends (pre.length : Int) = some b := by rw [e]; exact at?_mid
    have hgb : ends[pre.length]? = some b := by rw [e]; simp
    have ih := moves_loop x ends g he hs k r (pre ++ [b]) (by rw [e, mid_cons])
    have e2 : (((pre ++ [b]).length : Nat) : Int) = (pre.length : Int) + 1 := by simp
    rw [e2] at ih
    have hh : hasR x (pre.length : Int) = (wayS (pre.length : Int) x.strokes, 0) := by
      unfold hasR
      rw [if_neg (fun q => q (chk_zero.2 g)), if_pos ⟨by omega, by omega⟩]
    have hget := setL_get x.strokes (-1) ends g.asc pre.length (by omega)
    have hw : at? (setL ends x.strokes) (pre.length : Int) = (setL ends x.strokes)[pre.length]? := by unfold at?; rw [if_pos (by omega)]; simp
    unfold law13_StrokeMoves_loop1
    rw [if_pos (by rw [decide_eq_true_eq]; omega), hat, Option.bind_some, lhas_eq, Option.bind_some, hh, wrap64 (x := (pre.length : Int) + 1) (by omega) (by omega), List.length_cons, ih, hw, hget]
    rcases way_mem (pre.length : Int) x.strokes with ⟨h, y, hy, q1, q2⟩ | ⟨h, y, hy, q1, q2⟩ | h
    · have hb := suits_at hs hy q1
      rw [hgb, q2] at hb
      have hb' : b = false := by simpa using hb
      rw [h, hb']
      rfl
    · have hb := suits_at hs hy q1
      rw [hgb, q2] at hb
      have hb' : b = true := by simpa using hb
      rw [h, hb']
      rfl
    · rw [h, hgb]
      cases b <;> rfl
theorem law_Moves (x : Step) (ends : List Bool) : law13_StrokeMoves x ends = some true := by
  unfold law13_StrokeMoves
  obtain ⟨b, hb, k⟩ := few_eq x ends
  rw [hb, Option.bind_some, awake_true]
  cases b
  · simp
  · rw [rchk_eq]
    simp only [Bool.not_true, Bool.false_eq_true, if_false, Option.bind_some]
    by_cases hc : chk x = 0
    · have c1 : (chk x != 0) = false := by simpa using hc
      have g := chk_zero.1 hc
      rw [c1, Bool.false_or]
      by_cases he : ends.length ≤ 6
      · rw [if_neg (by rw [decide_eq_true_eq]; omega), rsuits_eq x ends g, Option.bind_some, Option.bind_some]
        cases hs : suitsB x ends
        · rfl
        · have hap : applyR x ends = (setL ends x.strokes, 0) := by
            unfold applyR
            rw [if_neg (fun q => q (given_zero.2 ⟨g, he⟩)), if_pos hs]
          rw [if_neg (by simp), lapply_eq, hap, Option.bind_some]
          dsimp only
          rw [setL_len, if_neg (by simp)]
          unfold joinK
          dsimp only
          rw [fuel0]
          exact moves_loop x ends g he hs _ ends [] rfl
      · rw [if_pos (by rw [decide_eq_true_eq]; omega)]
        rfl
    · have c1 : (chk x != 0) = true := by simpa using hc
      rw [c1]
      rfl
/-! ### opposite strokes -/
def turn (y : Stroke) : Stroke := ⟨y.actuator, !y.out⟩
theorem check_eq (y : Stroke) : stroke_Check y = some (if 0 ≤ y.actuator ∧ y.actuator < 6 then 0 else 2) ∧ ref13_Check y = some (if 0 ≤ y.actuator ∧ y.actuator < 6 then 0 else 2) := by
  unfold stroke_Check ref13_Check
  rw [(known_eq _).1, (known_eq _).2]
  by_cases h : 0 ≤ y.actuator ∧ y.actuator < 6
  · rw [decide_eq_true h, if_pos h]; exact ⟨rfl, rfl⟩
  · rw [decide_eq_false h, if_neg h]; exact ⟨rfl, rfl⟩
theorem law_Checks (y : Stroke) : law13_StrokeChecks y = some true := by
  unfold law13_StrokeChecks stroke_Opposite ref13_Opposite stroke_Text ref13_Text ref13_Turned
  rw [(check_eq y).1, (check_eq y).2, awake_true]
  by_cases h : 0 ≤ y.actuator ∧ y.actuator < 6
  · rw [if_pos h, lwr_eq h.1 h.2, rwr_eq h.1 h.2]
    simp
  · rw [if_neg h]
    simp
theorem opp_eq {y : Stroke} (h0 : 0 ≤ y.actuator) (h1 : y.actuator < 6) : stroke_Opposite y = some (turn y, 0) := by
  unfold stroke_Opposite
  rw [(check_eq y).1, if_pos ⟨h0, h1⟩]
  rfl
theorem ret_loop (x : Step) (g : GoodS x) (k : List Stroke → Option Bool) : ∀ (r pre : List Stroke), x.strokes = pre ++ r → law13_StrokeReturns_loop1 x k (r.length + 1) (pre.length : Int) (pre.map turn) = k (x.strokes.map turn)
  | [], pre, e => by
    unfold law13_StrokeReturns_loop1
    rw [e, ge_end]
    simp
  | y :: r, pre, e => by
    have hf := g.few
    have hlen : x.strokes.length = pre.length + (r.length + 1) := by rw [e]; simp
    obtain ⟨h0, h1, _⟩ := asc_mem g.asc y (by rw [e]; simp)
    have hat : at? x.strokes (pre.length : Int) = some y := by rw [e]; exact at?_mid
    have ih := ret_loop x g k r (pre ++ [y]) (by rw [e, mid_cons])
    have e2 : (((pre ++ [y]).length : Nat) : Int) = (pre.length : Int) + 1 := by simp
    rw [e2, List.map_append] at ih
    have t1 : (turn y).actuator = y.actuator := rfl
    have t2 : ((turn y).out == y.out) = false := by unfold turn; cases y.out <;> rfl
    unfold law13_StrokeReturns_loop1
    rw [if_pos (by rw [decide_eq_true_eq]; omega), hat, Option.bind_some, opp_eq h0 h1, Option.bind_some]
    dsimp only
    rw [t1, t2, if_neg (by simp), appO_ok (by simp; omega) (by decide), Option.bind_some, wrap64 (x := (pre.length : Int) + 1) (by omega) (by omega)]
    exact ih
theorem asc_turn : ∀ {r : List Stroke} {last : Int}, Asc last r → Asc last (r.map turn)
  | [], _, _ => trivial
  | y :: r, last, h => ⟨h.1, h.2.1, h.2.2.1, asc_turn h.2.2.2⟩
theorem way_turn (n : Int) : ∀ r : List Stroke, wayS n (r.map turn) = -(wayS n r)
  | [] => rfl
  | y :: r => by
    rw [List.map_cons, wayS, wayS, way_turn n r]
    have t1 : (turn y).actuator = y.actuator := rfl
    have t2 : (turn y).out = !y.out := rfl
    rw [t1, t2]
    split
    · cases y.out <;> rfl
    · rfl
theorem law_Returns (x : Step) (ends : List Bool) : law13_StrokeReturns x ends = some true := by
  unfold law13_StrokeReturns
  obtain ⟨b, hb, k⟩ := few_eq x ends
  rw [hb, Option.bind_some, awake_true]
  cases b
  · simp
  · rw [rchk_eq]
    simp only [Bool.not_true, Bool.false_eq_true, if_false, Option.bind_some]
    by_cases hc : chk x = 0
    · have c1 : (chk x != 0) = false := by simpa using hc
      have g := chk_zero.1 hc
      rw [c1, Bool.false_or]
      by_cases he : ends.length ≤ 6
      · have hz := given_zero.2 ⟨g, he⟩
        have hfi : fitsR x ends = (suitsB x ends, 0) := by unfold fitsR; rw [if_neg (fun q => q hz)]
        rw [if_neg (by rw [decide_eq_true_eq]; omega), lfitsR_eq, Option.bind_some, lapply_eq, Option.bind_some, hfi]
        cases hs : suitsB x ends
        · have hap : applyR x ends = ([], 14) := by
            unfold applyR
            rw [if_neg (fun q => q hz), hs, if_neg (by simp)]
          rw [hap]
          rfl
        · have hap : applyR x ends = (setL ends x.strokes, 0) := by
            unfold applyR
            rw [if_neg (fun q => q hz), if_pos hs]
          rw [hap]
          dsimp only
          rw [if_neg (by simp), if_neg (by simp)]
          unfold joinK
          dsimp only
          rw [fuel0]
          refine Eq.trans (ret_loop x g _ x.strokes [] rfl) ?_
          have g2 : GoodS ⟨x.strokes.map turn, x.wait⟩ := ⟨fun q => g.ne (List.map_eq_nil_iff.1 q), by simpa using g.few, asc_turn g.asc, g.w0, g.w1⟩
          have hlenS : (setL ends x.strokes).length = ends.length := setL_len _ _
          have hz2 := given_zero.2 ⟨g2, (show (setL ends x.strokes).length ≤ 6 by omega)⟩
          have hs2 : suitsB ⟨x.strokes.map turn, x.wait⟩ (setL ends x.strokes) = true := by
            unfold suitsB
            dsimp only
            rw [List.all_eq_true]
            intro z hz
            obtain ⟨y, hy, rfl⟩ := List.mem_map.1 hz
            obtain ⟨h0, h1, _⟩ := asc_mem g.asc y hy
            have hlt := (suit_lt (List.all_eq_true.1 hs y hy)).1
            have hget := setL_get x.strokes (-1) ends g.asc y.actuator.toNat hlt
            have hyi : y.actuator = ((y.actuator.toNat : Nat) : Int) := by omega
            have hway : wayS ((y.actuator.toNat : Nat) : Int) x.strokes = if y.out = true then 1 else -1 := by
              rw [← hyi]
              have : ∀ (r : List Stroke) (last : Int), Asc last r → y ∈ r → wayS y.actuator r = if y.out = true then 1 else -1 := by
                intro r
                induction r with
                | nil => intro _ _ h; simp at h
                | cons z r ih =>
                  intro last ha hm
                  rw [wayS]
                  rcases List.mem_cons.1 hm with rfl | hm
                  · rw [if_pos rfl]
                  · obtain ⟨_, _, q⟩ := asc_mem ha.2.2.2 y hm
                    rw [if_neg (by omega)]
                    exact ih _ ha.2.2.2 hm
              exact this _ _ g.asc hy
            rw [hway] at hget
            unfold suit1
            have t1 : (turn y).actuator = y.actuator := rfl
            have t2 : (turn y).out = !y.out := rfl
            rw [t1, t2, hget]
            cases y.out <;> rfl
          have hap2 : applyR ⟨x.strokes.map turn, x.wait⟩ (setL ends x.strokes) = (ends, 0) := by
            unfold applyR
            rw [if_neg (fun q => q hz2), if_pos hs2]
            congr 1
            apply List.ext_getElem?
            intro i
            by_cases hi : i < ends.length
            · have h1 := setL_get (x.strokes.map turn) (-1) (setL ends x.strokes) (asc_turn g.asc) i (by omega)
              have h2 := setL_get x.strokes (-1) ends g.asc i hi
              dsimp only
              rw [h1, way_turn, h2]
              rcases way_mem (i : Int) x.strokes with ⟨h, y, hy, q1, q2⟩ | ⟨h, y, hy, q1, q2⟩ | h
              · have hb := suits_at hs hy q1
                rw [h, hb, q2]
                rfl
              · have hb := suits_at hs hy q1
                rw [h, hb, q2]
                rfl
              · rw [h]
                rfl
            · rw [List.getElem?_eq_none (by rw [setL_len, setL_len]; omega), List.getElem?_eq_none (by omega)]
          rw [lapply_eq, hap2, Option.bind_some]
          dsimp only
          rw [if_pos (by rfl), eqB_eq ends (by omega)]
          rfl
      · rw [if_pos (by rw [decide_eq_true_eq]; omega)]
    · have c1 : (chk x != 0) = true := by simpa using hc
      rw [c1]
      rfl
/-! ### texts -/
theorem law_Reads (l : List Step) (text : List UInt8) : law13_StrokeReads l text = some true := by
  unfold law13_StrokeReads
  rw [awake_true]
  have fin : joinK (joinK ((some true).bind fun r8 => some r8) fun k2 => (stroke_Parse text).bind fun r6 => if (r6.2.2 == 0) = true then (stroke_Format r6.1).bind fun r7 => if ((r7.2 != 0) || (!(r7.1 == text))) = true then some false else k2 else k2) (fun k1 => (stroke_Format l).bind fun r3 => if (r3.2 == 0) = true then (stroke_Parse r3.1).bind fun r4 => (if ((r4.2.2 != 0) || (r4.2.1 != 0)) = true then some true else (ref13_SameSteps l r4.1).bind fun r5 => some (!r5)).bind fun c2 => if c2 = true then some false else k1 else k1) = some true := by
    unfold joinK
    dsimp only
    have h2 : ((stroke_Parse text).bind fun r6 => if (r6.2.2 == 0) = true then (stroke_Format r6.1).bind fun r7 => if ((r7.2 != 0) || (!(r7.1 == text))) = true then some false else (some true).bind fun r8 => some r8 else (some true).bind fun r8 => some r8) = some true := by
      rw [lparse_eq, Option.bind_some]
      by_cases h : (parseR text).2.2 = 0
      · rw [if_pos (by simpa using h), lform_eq, format_parse h]
        simp
      · rw [if_neg (by simpa using h)]
        rfl
    rw [h2, lform_eq, Option.bind_some]
    by_cases h : (formatR l).2 = 0
    · obtain ⟨hg, hl, ht⟩ := format_ok h
      rw [if_pos (by simpa using h), ht, lparse_eq, parse_text hg hl, Option.bind_some]
      dsimp only
      rw [if_neg (by decide), sameL_eq l (by omega) (fun x hx => by have := (hg x hx).few; omega)]
      rfl
    · rw [if_neg (by simpa using h)]
  by_cases h : l.length > 128
  · rw [if_pos (by rw [decide_eq_true_eq]; omega)]
    rfl
  · rw [if_neg (by rw [decide_eq_true_eq]; omega)]
    obtain ⟨b, h1, _⟩ := contains_eq l (by omega)
    rw [h1, Option.bind_some, Option.bind_some]
    split
    · rfl
    · exact fin
end Go.Proofs.YtbiifgojhljkjaaDoor.W
