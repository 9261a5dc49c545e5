/- The plain laws of strokes, third part: Format, Has, Same; the laws StrokeFormats and StrokeSteps. No program in sight. -/
import Derived.Test.YtbhcojijafbdiaaGreatDoorLawB
set_option linter.unusedVariables false
set_option linter.unusedSimpArgs false
set_option maxHeartbeats 2000000
namespace Go.Proofs.YtbhcojijafbdiaaGreatDoor.W
open Go Go.RowKit
/-! ### Format -/
def errL : List Step → Int
  | [] => 0
  | x :: r => if chk x ≠ 0 then chk x else errL r
theorem errL_cons {x : Step} {r : List Step} (h : chk x = 0) : errL (x :: r) = errL r := by rw [errL, if_neg (fun q => q h)]
theorem errL_bad {x : Step} {r : List Step} (h : chk x ≠ 0) : errL (x :: r) = chk x := by rw [errL, if_pos h]
theorem errL_good : ∀ {l : List Step}, errL l = 0 ↔ ∀ x ∈ l, GoodS x
  | [] => by simp [errL]
  | x :: r => by
    by_cases h : chk x = 0
    · rw [errL_cons h, errL_good]
      constructor
      · intro q y hy
        rcases List.mem_cons.1 hy with rfl | hy
        · exact chk_zero.1 h
        · exact q y hy
      · intro q y hy; exact q y (by simp [hy])
    · rw [errL_bad h]
      constructor
      · intro q; exact absurd q h
      · intro q; exact absurd (chk_zero.2 (q x (by simp))) h
theorem lform_loop2 (x : Step) (g : GoodS x) (k : List (List UInt8) → Option (List UInt8 × Int)) : ∀ (r pre : List Stroke), x.strokes = pre ++ r → stroke_Format_loop2 x k (r.length + 1) (pre.length : Int) (pre.map wr) = k (x.strokes.map wr)
  | [], pre, e => by
    unfold stroke_Format_loop2
    rw [e, ge_end]
    simp
  | y :: r, pre, e => by
    have hf := g.few
    have hlen : x.strokes.length = pre.length + (r.length + 1) := by rw [e]; simp
    obtain ⟨h0, h1, _⟩ := asc_mem g.asc y (by rw [e]; simp)
    have hat : at? x.strokes (pre.length : Int) = some y := by rw [e]; exact at?_mid
    unfold stroke_Format_loop2
    rw [if_pos (by rw [decide_eq_true_eq]; omega), hat, Option.bind_some, lwr_eq h0 h1, Option.bind_some, appO_ok (by simp; omega) (by decide), Option.bind_some, wrap64 (by omega) (by omega)]
    have ih := lform_loop2 x g k r (pre ++ [y]) (by rw [e, mid_cons])
    have e2 : (((pre ++ [y]).length : Nat) : Int) = (pre.length : Int) + 1 := by simp
    rw [e2, List.map_append] at ih
    exact ih
theorem lform_loop (l : List Step) (k : List (List UInt8) → Option (List UInt8 × Int)) (hl : l.length ≤ 64) : ∀ (r pre : List Step) (acc : List (List UInt8)), l = pre ++ r → acc.length ≤ pre.length →
    stroke_Format_loop1 l k (r.length + 1) (pre.length : Int) acc = if errL r ≠ 0 then some ([], errL r) else k (acc ++ r.map lineS)
  | [], pre, acc, e, ha => by
    unfold stroke_Format_loop1
    rw [e, ge_end]
    simp [errL]
  | x :: r, pre, acc, e, ha => by
    have hlen : l.length = pre.length + (r.length + 1) := by rw [e]; simp
    have hat : at? l (pre.length : Int) = some x := by rw [e]; exact at?_mid
    have hw : IntKind.wrap .i64 ((pre.length : Int) + 1) = (((pre ++ [x]).length : Nat) : Int) := by rw [wrap64 (by omega) (by omega)]; simp
    unfold stroke_Format_loop1 joinK
    dsimp only
    rw [if_pos (by rw [decide_eq_true_eq]; omega), hat, Option.bind_some, lchk_eq, Option.bind_some, hw]
    by_cases h : chk x = 0
    · have hb : ¬ (chk x != 0) = true := by simpa using h
      have g := chk_zero.1 h
      have hf := g.few
      rw [if_neg hb, errL_cons h, fuel0]
      refine Eq.trans (lform_loop2 x g _ x.strokes [] rfl) ?_
      obtain ⟨w1, w2⟩ := words_len g
      have hll := line_len g
      have fin : ∀ W : List (List UInt8), W = words x → ((joinS W [32]).bind fun r4 => (appO 16 acc ([r4] : List (List UInt8))).bind fun _ => stroke_Format_loop1 l k (x :: r).length (((pre ++ [x]).length : Nat) : Int) (acc ++ ([r4] : List (List UInt8)))) = if errL r ≠ 0 then some ([], errL r) else k (acc ++ (x :: r).map lineS) := by
        intro W hW
        subst hW
        rw [joinS_eq (by omega) (by unfold lineS at hll; omega), Option.bind_some, appO_ok (by simp; omega) (by decide), Option.bind_some]
        refine Eq.trans (lform_loop l k hl r (pre ++ [x]) (acc ++ [lineS x]) (by rw [e, mid_cons]) (by simp; omega)) ?_
        simp
      by_cases hwt : x.wait > 0
      · rw [if_pos (by rw [decide_eq_true_eq]; exact hwt), itoa_eq g.w0 g.w1, Option.bind_some, appO_ok (by simp; omega) (by decide), Option.bind_some]
        exact fin _ (by unfold words; rw [if_pos hwt])
      · rw [if_neg (by rw [decide_eq_true_eq]; exact hwt)]
        exact fin _ (by unfold words; rw [if_neg hwt, List.append_nil])
    · rw [if_pos (by simpa using h), errL_bad h, if_pos h]
def formatR (l : List Step) : List UInt8 × Int := if 64 < l.length then ([], 5) else if errL l ≠ 0 then ([], errL l) else (textL l, 0)
theorem lform_eq (l : List Step) : stroke_Format l = some (formatR l) := by
  unfold stroke_Format formatR
  by_cases h : 64 < l.length
  · rw [if_pos (by rw [decide_eq_true_eq]; omega), if_pos h]
  · rw [if_neg (by rw [decide_eq_true_eq]; omega), if_neg h]
    unfold joinK
    dsimp only
    rw [fuel0]
    refine Eq.trans (lform_loop l _ (by omega) l [] [] rfl (by simp)) ?_
    by_cases he : errL l = 0
    · have hn : ¬ errL l ≠ 0 := fun q => q he
      have ht := text_len (errL_good.1 he) (by omega)
      rw [if_neg hn, if_neg hn, List.nil_append, joinS_eq (by simp; omega) (by unfold textL at ht; omega)]
      rfl
    · have hn : errL l ≠ 0 := he
      rw [if_pos hn, if_pos hn]
theorem rline_loop (x : Step) (g : GoodS x) (k : List UInt8 → Option (List UInt8)) : ∀ (r pre : List Stroke), x.strokes = pre ++ r → ref13_Line_loop1 x k (r.length + 1) (Lib.join (pre.map wr) [32]) (pre.length : Int) = k (Lib.join (x.strokes.map wr) [32])
  | [], pre, e => by
    unfold ref13_Line_loop1
    rw [e, ge_end]
    simp
  | y :: r, pre, e => by
    have hf := g.few
    have hlen : x.strokes.length = pre.length + (r.length + 1) := by rw [e]; simp
    obtain ⟨h0, h1, _⟩ := asc_mem g.asc y (by rw [e]; simp)
    have hat : at? x.strokes (pre.length : Int) = some y := by rw [e]; exact at?_mid
    have hjl := join_len [32] 2 (pre.map wr) (fun t ht => by obtain ⟨z, _, rfl⟩ := List.mem_map.1 ht; exact Nat.le_refl _)
    rw [List.length_map] at hjl
    simp only [List.length_singleton] at hjl
    have ih := rline_loop x g k r (pre ++ [y]) (by rw [e, mid_cons])
    have e2 : (((pre ++ [y]).length : Nat) : Int) = (pre.length : Int) + 1 := by simp
    rw [e2, List.map_append, List.map_singleton, join_snoc] at ih
    unfold ref13_Line_loop1 joinK
    dsimp only
    rw [if_pos (by rw [decide_eq_true_eq]; omega), hat]
    simp only [Option.bind_some]
    rw [rwr_eq h0 h1, wrap64 (x := (pre.length : Int) + 1) (by omega) (by omega)]
    simp only [Option.bind_some]
    by_cases hp : pre = []
    · subst hp
      rw [if_neg (by simp), catO_small (by simp [Lib.join_nil, wr_len]), Option.bind_some]
      rw [if_pos (by simp)] at ih
      simpa [Lib.join_nil] using ih
    · have hpos : 0 < pre.length := List.length_pos_iff.2 hp
      rw [if_neg (by simpa using hp)] at ih
      rw [if_pos (by rw [decide_eq_true_eq]; omega), catO_small (by simp; omega), Option.bind_some, catO_small (by simp [wr_len]; omega), Option.bind_some]
      exact ih
theorem rline_eq (x : Step) (g : GoodS x) : ref13_Line x = some (lineS x) := by
  unfold ref13_Line joinK
  dsimp only
  rw [fuel0]
  refine Eq.trans (rline_loop x g _ x.strokes [] rfl) ?_
  have hne : x.strokes.map wr ≠ [] := fun q => g.ne (List.map_eq_nil_iff.1 q)
  have hll := line_len g
  unfold lineS words at hll ⊢
  by_cases hw : x.wait > 0
  · rw [if_pos hw, join_snoc, if_neg hne] at hll
    simp only [List.length_append, List.length_singleton] at hll
    rw [if_pos (by rw [decide_eq_true_eq]; exact hw), digits_eq g.w0 g.w1, Option.bind_some, catO_small (by simp; omega), Option.bind_some, catO_small (by simp; omega), Option.bind_some, if_pos hw, join_snoc, if_neg hne]
    simp
  · rw [if_neg (by rw [decide_eq_true_eq]; exact hw), if_neg hw, List.append_nil]
theorem rlines_loop (l : List Step) (hg : ∀ x ∈ l, GoodS x) (hl : l.length ≤ 64) (k : List UInt8 → Option (List UInt8)) : ∀ (r pre : List Step), l = pre ++ r → ref13_Lines_loop1 l k (r.length + 1) (textL pre) (pre.length : Int) = k (textL l)
  | [], pre, e => by
    unfold ref13_Lines_loop1
    rw [e, ge_end]
    simp
  | x :: r, pre, e => by
    have hlen : l.length = pre.length + (r.length + 1) := by rw [e]; simp
    have g := hg x (by rw [e]; simp)
    have hat : at? l (pre.length : Int) = some x := by rw [e]; exact at?_mid
    have htl := text_len (l := pre) (fun z hz => hg z (by rw [e]; simp [hz])) (by omega)
    have hll := line_len g
    have ih := rlines_loop l hg hl k r (pre ++ [x]) (by rw [e, mid_cons])
    have e2 : (((pre ++ [x]).length : Nat) : Int) = (pre.length : Int) + 1 := by simp
    have e3 : textL (pre ++ [x]) = if pre = [] then lineS x else textL pre ++ [59, 32] ++ lineS x := by
      unfold textL
      rw [List.map_append, List.map_singleton, join_snoc]
      simp
    rw [e2, e3] at ih
    unfold ref13_Lines_loop1 joinK
    dsimp only
    rw [if_pos (by rw [decide_eq_true_eq]; omega), hat]
    simp only [Option.bind_some]
    rw [rline_eq x g, wrap64 (x := (pre.length : Int) + 1) (by omega) (by omega)]
    simp only [Option.bind_some]
    by_cases hp : pre = []
    · subst hp
      have e0 : textL [] = [] := rfl
      rw [if_neg (by simp), e0, catO_small (by simp; omega), Option.bind_some]
      rw [if_pos rfl] at ih
      exact ih
    · have hpos : 0 < pre.length := List.length_pos_iff.2 hp
      rw [if_neg hp] at ih
      rw [if_pos (by rw [decide_eq_true_eq]; omega), catO_small (by simp; omega), Option.bind_some, catO_small (by simp; omega), Option.bind_some]
      exact ih
theorem rlines_eq (l : List Step) (hg : ∀ x ∈ l, GoodS x) (hl : l.length ≤ 64) : ref13_Lines l = some (textL l) := by
  unfold ref13_Lines joinK
  dsimp only
  rw [fuel0]
  exact rlines_loop l hg hl _ l [] rfl
/-! ### the laws -/
/-! ### Has, Same -/
def wayS (n : Int) : List Stroke → Int
  | [] => 0
  | y :: r => if y.actuator = n then (if y.out = true then 1 else -1) else wayS n r
theorem lhas_loop (x : Step) (n : Int) (hl : x.strokes.length ≤ 100) : ∀ (r pre : List Stroke), x.strokes = pre ++ r → stroke_Has_loop1 x n (some (0, 0)) (r.length + 1) (pre.length : Int) = some (wayS n r, 0)
  | [], pre, e => by
    unfold stroke_Has_loop1
    rw [e, ge_end]
    simp [wayS]
  | y :: r, pre, e => by
    have ih := lhas_loop x n hl r (pre ++ [y]) (by rw [e, mid_cons])
    unfold stroke_Has_loop1
    rw [e, lt_mid, if_pos rfl, at?_mid, Option.bind_some, wrap_mid (x := y) (r := r) (by rw [← e]; omega), wayS]
    by_cases h : y.actuator = n
    · rw [if_neg (by simpa using h), if_pos h]
      cases y.out <;> rfl
    · rw [if_pos (by simpa using h), if_neg h]
      exact ih
theorem rway_loop (x : Step) (n : Int) (hl : x.strokes.length ≤ 100) : ∀ (r pre : List Stroke), x.strokes = pre ++ r → ref13_Way_loop1 x n (some 0) (r.length + 1) (pre.length : Int) = some (wayS n r)
  | [], pre, e => by
    unfold ref13_Way_loop1
    rw [e, ge_end]
    simp [wayS]
  | y :: r, pre, e => by
    have ih := rway_loop x n hl r (pre ++ [y]) (by rw [e, mid_cons])
    have hat : at? x.strokes (pre.length : Int) = some y := by rw [e]; exact at?_mid
    have hlen : x.strokes.length = pre.length + (r.length + 1) := by rw [e]; simp
    unfold ref13_Way_loop1
    rw [if_pos (by rw [decide_eq_true_eq]; omega), hat]
    simp only [Option.bind_some]
    rw [wrap64 (x := (pre.length : Int) + 1) (by omega) (by omega), wayS]
    by_cases h : y.actuator = n
    · rw [if_pos (by simpa using h), if_pos h]
      cases y.out <;> rfl
    · rw [if_neg (by simpa using h), if_neg h]
      have e2 : (((pre ++ [y]).length : Nat) : Int) = (pre.length : Int) + 1 := by simp
      rw [e2] at ih
      exact ih
def hasR (x : Step) (n : Int) : Int × Int := if chk x ≠ 0 then (0, chk x) else if 0 ≤ n ∧ n < 6 then (wayS n x.strokes, 0) else (0, 2)
theorem lhas_eq (x : Step) (n : Int) : stroke_Has x n = some (hasR x n) := by
  unfold stroke_Has hasR
  rw [lchk_eq, Option.bind_some]
  by_cases h : chk x = 0
  · have hf := (chk_zero.1 h).few
    rw [if_neg (by simpa using h), if_neg (fun q => q h), (known_eq n).1, Option.bind_some]
    by_cases hn : 0 ≤ n ∧ n < 6
    · rw [decide_eq_true hn, if_neg (by simp), if_pos hn]
      unfold joinK
      dsimp only
      rw [fuel0]
      exact lhas_loop x n (by omega) x.strokes [] rfl
    · rw [decide_eq_false hn, if_pos (by simp), if_neg hn]
  · rw [if_pos (by simpa using h), if_pos h]
theorem rway_eq (x : Step) (n : Int) (hf : x.strokes.length ≤ 100) : ref13_Way x n = some (wayS n x.strokes) := by
  unfold ref13_Way joinK
  dsimp only
  rw [fuel0]
  exact rway_loop x n hf x.strokes [] rfl
theorem eqK_loop (a b : List Stroke) (hl : a.length = b.length) (hb : a.length ≤ 100000) : ∀ (r q pre pre2 : List Stroke), a = pre ++ r → b = pre2 ++ q → pre.length = pre2.length → slices_Equal_api_Strokeapi_Stroke_loop1 a b (some true) (r.length + 1) (pre.length : Int) = some (r == q)
  | [], q, pre, pre2, ea, eb, hp => by
    unfold slices_Equal_api_Strokeapi_Stroke_loop1
    have : q = [] := by
      have h1 : a.length = pre.length := by rw [ea]; simp
      have h2 : b.length = pre2.length + q.length := by rw [eb]; simp
      exact List.eq_nil_of_length_eq_zero (by omega)
    subst this
    rw [if_neg (by rw [ea]; simp)]
    rfl
  | y :: r, q, pre, pre2, ea, eb, hp => by
    have h1 : a.length = pre.length + (r.length + 1) := by rw [ea]; simp
    have h2 : b.length = pre2.length + q.length := by rw [eb]; simp
    cases q with
    | nil => simp at h2; omega
    | cons z q =>
      have ih := eqK_loop a b hl hb r q (pre ++ [y]) (pre2 ++ [z]) (by rw [ea, mid_cons]) (by rw [eb, mid_cons]) (by simp [hp])
      have ha : at? a (pre.length : Int) = some y := by rw [ea]; exact at?_mid
      have hbz : at? b (pre.length : Int) = some z := by rw [hp, eb]; exact at?_mid
      have e2 : (((pre ++ [y]).length : Nat) : Int) = (pre.length : Int) + 1 := by simp
      rw [e2] at ih
      unfold slices_Equal_api_Strokeapi_Stroke_loop1
      rw [if_pos (by rw [decide_eq_true_eq]; omega), ha, hbz]
      simp only [Option.bind_some]
      rw [wrap64 (x := (pre.length : Int) + 1) (by omega) (by omega), List.length_cons, ih, List.cons_beq_cons]
      cases y == z <;> rfl
theorem eqK_eq (a b : List Stroke) (hb : a.length ≤ 100000) : slices_Equal_api_Strokeapi_Stroke a b = some (a == b) := by
  unfold slices_Equal_api_Strokeapi_Stroke
  by_cases h : a.length = b.length
  · rw [if_neg (by simp [h])]
    unfold joinK
    dsimp only
    rw [fuel0]
    exact eqK_loop a b h hb a b [] [] rfl rfl rfl
  · rw [if_pos (by simp; omega)]
    congr 1
    symm
    rw [beq_eq_false_iff_ne]
    intro q
    exact h (by rw [q])
theorem rsame_loop (a b : List Stroke) (hl : a.length = b.length) (hb : a.length ≤ 100000) : ∀ (r q pre pre2 : List Stroke), a = pre ++ r → b = pre2 ++ q → pre.length = pre2.length → ref13_SameStrokes_loop1 a b (some true) (r.length + 1) (pre.length : Int) = some (r == q)
  | [], q, pre, pre2, ea, eb, hp => by
    unfold ref13_SameStrokes_loop1
    have : q = [] := by
      have h1 : a.length = pre.length := by rw [ea]; simp
      have h2 : b.length = pre2.length + q.length := by rw [eb]; simp
      exact List.eq_nil_of_length_eq_zero (by omega)
    subst this
    rw [if_neg (by rw [ea]; simp)]
    rfl
  | y :: r, q, pre, pre2, ea, eb, hp => by
    have h1 : a.length = pre.length + (r.length + 1) := by rw [ea]; simp
    have h2 : b.length = pre2.length + q.length := by rw [eb]; simp
    cases q with
    | nil => simp at h2; omega
    | cons z q =>
      have ih := rsame_loop a b hl hb r q (pre ++ [y]) (pre2 ++ [z]) (by rw [ea, mid_cons]) (by rw [eb, mid_cons]) (by simp [hp])
      have ha : at? a (pre.length : Int) = some y := by rw [ea]; exact at?_mid
      have hbz : at? b (pre.length : Int) = some z := by rw [hp, eb]; exact at?_mid
      have e2 : (((pre ++ [y]).length : Nat) : Int) = (pre.length : Int) + 1 := by simp
      rw [e2] at ih
      unfold ref13_SameStrokes_loop1
      rw [if_pos (by rw [decide_eq_true_eq]; omega), ha, hbz]
      simp only [Option.bind_some]
      rw [wrap64 (x := (pre.length : Int) + 1) (by omega) (by omega), List.length_cons, ih, List.cons_beq_cons]
      cases y == z <;> rfl
theorem rsameK_eq (a b : List Stroke) (hb : a.length ≤ 100000) : ref13_SameStrokes a b = some (a == b) := by
  unfold ref13_SameStrokes
  by_cases h : a.length = b.length
  · rw [if_neg (by simp [h])]
    unfold joinK
    dsimp only
    rw [fuel0]
    exact rsame_loop a b h hb a b [] [] rfl rfl rfl
  · rw [if_pos (by simp; omega)]
    congr 1
    symm
    rw [beq_eq_false_iff_ne]
    intro q
    exact h (by rw [q])
def sameB (a b : Step) : Bool := a.wait == b.wait && a.strokes == b.strokes
theorem rsame_eq (a b : Step) (hb : a.strokes.length ≤ 100000) : ref13_Same a b = some (sameB a b) := by
  unfold ref13_Same sameB
  rw [rsameK_eq _ _ hb]
  cases a.wait == b.wait <;> rfl
end Go.Proofs.YtbhcojijafbdiaaGreatDoor.W
