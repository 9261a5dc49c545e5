/- The plain laws of strokes, fifth part: Parse; the laws StrokeParses and StrokeReads. No program in sight. -/
import Derived.Test.YtbhcojijafbdiaaGreatDoorLawD
set_option linter.unusedVariables false
set_option linter.unusedSimpArgs false
set_option maxHeartbeats 2000000
namespace Go.Proofs.YtbhcojijafbdiaaGreatDoor.W
open Go Go.RowKit
/-! ### pieces of a text -/
theorem split_ne (s by_ : List UInt8) (hb : by_ ≠ []) : Lib.split s by_ ≠ [] := by
  by_cases hx : Lib.index s by_ = -1
  · rw [split_miss hx]; simp
  · have hge := Lib.index_ge s by_
    rw [split_hit hb (show Lib.index s by_ = ((Lib.index s by_).toNat : Int) by omega)]; simp
theorem split_back (by_ : List UInt8) (hb : by_ ≠ []) : ∀ (n : Nat) (s : List UInt8), s.length ≤ n → Lib.join (Lib.split s by_) by_ = s
  | n, s, hn => by
    have hbl : 0 < by_.length := List.length_pos_iff.2 hb
    rcases Lib.index_spec s by_ with ⟨h, _⟩ | ⟨j, h, hj, ho, _⟩
    · rw [split_miss h, Lib.join_one]
    · have hroom : j + by_.length ≤ s.length := by
        rcases Lib.occAt_room ho with q | q
        · exact q
        · exact absurd q hb
      cases n with
      | zero => omega
      | succ n =>
        have ih := split_back by_ hb n (s.drop (j + by_.length)) (by rw [List.length_drop]; omega)
        have hne := split_ne (s.drop (j + by_.length)) by_ hb
        rw [split_hit hb h]
        obtain ⟨x, r, e⟩ : ∃ x r, Lib.split (s.drop (j + by_.length)) by_ = x :: r := by
          cases q : Lib.split (s.drop (j + by_.length)) by_ with
          | nil => exact absurd q hne
          | cons x r => exact ⟨x, r, rfl⟩
        rw [e] at ih ⊢
        rw [Lib.join_cons] at ih ⊢
        have hoc := ho
        unfold Lib.occAt at hoc
        rw [isPrefix_take, beq_iff_eq] at hoc
        have hjt : Lib.joinTail by_ (x :: r) = by_ ++ (x ++ Lib.joinTail by_ r) := by
          unfold Lib.joinTail
          simp
        rw [hjt, ih]
        have e1 : s.drop j = by_ ++ s.drop (j + by_.length) := by
          have := List.take_append_drop by_.length (s.drop j)
          rw [hoc, List.drop_drop] at this
          exact this.symm
        rw [← e1, List.take_append_drop]
/-- the lengths of words, each with a separator of n bytes -/
def offs (n : Nat) (l : List (List UInt8)) : Nat := (l.map fun t => t.length + n).sum
theorem offs_snoc (n : Nat) (l : List (List UInt8)) (x : List UInt8) : offs n (l ++ [x]) = offs n l + (x.length + n) := by unfold offs; simp
theorem offs_cons (n : Nat) (x : List UInt8) (l : List (List UInt8)) : offs n (x :: l) = x.length + n + offs n l := by unfold offs; simp
theorem offs_append (n : Nat) (l m : List (List UInt8)) : offs n (l ++ m) = offs n l + offs n m := by unfold offs; simp
theorem offs_len (n : Nat) (hn : 1 ≤ n) : ∀ l : List (List UInt8), l.length ≤ offs n l
  | [] => by simp
  | x :: r => by
    have := offs_len n hn r
    rw [offs_cons]; simp; omega
theorem join_offs (sep : List UInt8) : ∀ (l : List (List UInt8)), l ≠ [] → (Lib.join l sep).length + sep.length = offs sep.length l
  | [], h => absurd rfl h
  | [x], _ => by rw [Lib.join_one, offs_cons]; simp [offs]
  | x :: y :: r, _ => by
    have ih := join_offs sep (y :: r) (by simp)
    rw [Lib.join_cons] at ih
    rw [Lib.join_cons, offs_cons, ← ih]
    unfold Lib.joinTail
    simp
    omega
/-! ### a step -/
def stepW (first : Bool) (wait : Int) (acc : List Stroke) : List (List UInt8) → Option Step
  | [] => some ⟨acc, wait⟩
  | w :: r => if ((readS w).2 && wait == 0) = true then stepW false wait (acc ++ [(readS w).1]) r
    else if (okN w && !first && r.isEmpty) = true then some ⟨acc, ((numV w : Nat) : Int)⟩ else none
theorem lstep_loop (s : List UInt8) (hs : s.length ≤ 100000) (ws : List (List UInt8)) (hw : offs 1 ws = s.length + 1) : ∀ (r pre : List (List UInt8)) (wait : Int) (acc : List Stroke), ws = pre ++ r → acc.length ≤ pre.length →
    stroke_step_loop1 s ws (r.length + 1) ((offs 1 pre : Nat) : Int) (pre.length : Int) wait acc = match stepW pre.isEmpty wait acc r with | none => some (⟨[], 0⟩, 4) | some x => some (x, chk x)
  | [], pre, wait, acc, e, ha => by
    unfold stroke_step_loop1
    rw [e, ge_end, if_neg (by simp), lchk_eq]
    rfl
  | x :: r, pre, wait, acc, e, ha => by
    have ho : offs 1 pre + (x.length + 1 + offs 1 r) = s.length + 1 := by rw [← hw, e, offs_append, offs_cons]
    have hpl : pre.length ≤ offs 1 pre := offs_len 1 (by omega) pre
    have hrl : r.length ≤ offs 1 r := offs_len 1 (by omega) r
    have hlen : ws.length = pre.length + (r.length + 1) := by rw [e]; simp
    have hat : at? ws (pre.length : Int) = some x := by rw [e]; exact at?_mid
    have l1 : (([32] : List UInt8).length : Int) = 1 := rfl
    unfold stroke_step_loop1 joinK
    dsimp only
    rw [if_pos (by rw [decide_eq_true_eq]; omega), hat, Option.bind_some, lread_eq, Option.bind_some, l1, wrap64 (x := (x.length : Int) + 1) (by omega) (by omega), wrap64 (x := ((offs 1 pre : Nat) : Int) + ((x.length : Int) + 1)) (by omega) (by omega), wrap64 (x := (pre.length : Int) + 1) (by omega) (by omega), stepW]
    have eo : ((offs 1 pre : Nat) : Int) + ((x.length : Int) + 1) = ((offs 1 (pre ++ [x]) : Nat) : Int) := by rw [offs_snoc]; omega
    have e2 : (pre.length : Int) + 1 = (((pre ++ [x]).length : Nat) : Int) := by simp
    have ene : (pre ++ [x]).isEmpty = false := by cases pre <;> rfl
    rw [eo, e2]
    by_cases h : ((readS x).2 && wait == 0) = true
    · rw [if_pos h, if_pos h, appO_ok (by simp; omega) (by decide), Option.bind_some]
      have ih := lstep_loop s hs ws hw r (pre ++ [x]) wait (acc ++ [(readS x).1]) (by rw [e, mid_cons]) (by simp; omega)
      rw [ene] at ih
      exact ih
    · rw [if_neg h, if_neg h, ldelay_eq x (by omega), Option.bind_some]
      have c1 : (((offs 1 pre : Nat) : Int) == 0) = pre.isEmpty := by
        cases pre with
        | nil => rfl
        | cons y q => rw [offs_cons]; simp; omega
      have c2 : decide (IntKind.wrap .i64 (((offs 1 pre : Nat) : Int) + (x.length : Int)) < (s.length : Int)) = !(r.isEmpty) := by
        rw [wrap64 (by omega) (by omega)]
        cases r with
        | nil =>
          have : offs 1 ([] : List (List UInt8)) = 0 := rfl
          rw [List.isEmpty_nil, Bool.not_true]
          exact decide_eq_false (by omega)
        | cons y q =>
          rw [List.isEmpty_cons, Bool.not_false]
          rw [offs_cons] at ho
          exact decide_eq_true (by omega)
      rw [c1, c2]
      by_cases hk : okN x = true
      · rw [if_pos hk, hk]
        cases hp : pre.isEmpty
        · cases hr : r.isEmpty
          · simp
          · have hr0 : r = [] := List.isEmpty_iff.1 hr
            subst hr0
            have ih := lstep_loop s hs ws hw [] (pre ++ [x]) ((numV x : Nat) : Int) acc (by rw [e]; simp) (by simp; omega)
            simp only [Bool.not_true, Bool.or_self, Bool.false_eq_true, if_false, Bool.not_false, Bool.and_self, if_true]
            exact ih
        · simp
      · have hk' : okN x = false := by simpa using hk
        rw [if_neg hk, hk']
        simp
theorem rstep_loop (ws : List (List UInt8)) (hl : ws.length ≤ 100001) : ∀ (r pre : List (List UInt8)) (wait : Int) (acc : List Stroke), ws = pre ++ r → acc.length ≤ pre.length →
    ref13_Step_loop1 ws (fun (i4 : Int) (l4 : List Stroke) => (ref13_CheckStep (Step.mk l4 i4)).bind fun r4 => if (r4 != 0) = true then some ((Step.mk [] 0), r4) else some ((Step.mk l4 i4), 0)) (r.length + 1) (pre.length : Int) wait acc = match stepW pre.isEmpty wait acc r with | none => some (⟨[], 0⟩, 4) | some x => if chk x ≠ 0 then some (⟨[], 0⟩, chk x) else some (x, 0)
  | [], pre, wait, acc, e, ha => by
    unfold ref13_Step_loop1
    rw [e, ge_end, if_neg (by simp), rchk_eq, Option.bind_some, stepW]
    dsimp only
    by_cases h : chk ⟨acc, wait⟩ = 0
    · rw [if_neg (by simpa using h), if_neg (fun q => q h)]
    · rw [if_pos (by simpa using h), if_pos h]
  | x :: r, pre, wait, acc, e, ha => by
    have hlen : ws.length = pre.length + (r.length + 1) := by rw [e]; simp
    have hat : at? ws (pre.length : Int) = some x := by rw [e]; exact at?_mid
    unfold ref13_Step_loop1 joinK
    dsimp only
    rw [if_pos (by rw [decide_eq_true_eq]; omega), hat]
    simp only [Option.bind_some]
    rw [rread_eq, Option.bind_some, wrap64 (x := (pre.length : Int) + 1) (by omega) (by omega), stepW]
    have e2 : (pre.length : Int) + 1 = (((pre ++ [x]).length : Nat) : Int) := by simp
    have ene : (pre ++ [x]).isEmpty = false := by cases pre <;> rfl
    rw [e2]
    by_cases h : ((readS x).2 && wait == 0) = true
    · rw [if_pos h, if_pos h, appO_ok (by simp; omega) (by decide), Option.bind_some]
      have ih := rstep_loop ws hl r (pre ++ [x]) wait (acc ++ [(readS x).1]) (by rw [e, mid_cons]) (by simp; omega)
      rw [ene] at ih
      exact ih
    · obtain ⟨n, ok, h1, h2, h3⟩ := rnum3_eq x
      rw [if_neg h, if_neg h, h1, Option.bind_some]
      dsimp only
      have c1 : ((pre.length : Int) == 0) = pre.isEmpty := by
        cases pre with
        | nil => rfl
        | cons y q => simp; omega
      have c2 : decide ((pre.length : Int) < IntKind.wrap .i64 ((ws.length : Int) - 1)) = !(r.isEmpty) := by
        rw [wrap64 (by omega) (by omega)]
        cases r with
        | nil => exact decide_eq_false (by simp at hlen; omega)
        | cons y q => exact decide_eq_true (by simp at hlen; omega)
      rw [h2, c1, c2]
      by_cases hk : okN x = true
      · rw [hk, h3 hk]
        cases hp : pre.isEmpty
        · cases hr : r.isEmpty
          · simp
          · have hr0 : r = [] := List.isEmpty_iff.1 hr
            subst hr0
            have ih := rstep_loop ws hl [] (pre ++ [x]) ((numV x : Nat) : Int) acc (by rw [e]; simp) (by simp; omega)
            simp only [Bool.not_true, Bool.or_self, Bool.false_eq_true, if_false, Bool.not_false, Bool.and_self, if_true]
            exact ih
        · simp
      · have hk' : okN x = false := by simpa using hk
        rw [hk']
        simp
theorem split_offs (s by_ : List UInt8) (hb : by_ ≠ []) : offs by_.length (Lib.split s by_) = s.length + by_.length := by
  have h := join_offs by_ (Lib.split s by_) (split_ne s by_ hb)
  rw [split_back by_ hb s.length s (Nat.le_refl _)] at h
  exact h.symm
def stepR (s : List UInt8) : Option Step := stepW true 0 [] (Lib.split s [32])
theorem lstep_eq (s : List UInt8) (hs : s.length ≤ 100000) : stroke_step s = some (match stepR s with | none => (⟨[], 0⟩, 4) | some x => (x, chk x)) := by
  unfold stroke_step
  rw [splitS_eq (by omega) (by decide), Option.bind_some, fuel0]
  have ho := split_offs s [32] (by simp)
  refine Eq.trans (lstep_loop s hs (Lib.split s [32]) ho (Lib.split s [32]) [] 0 [] rfl (by simp)) ?_
  unfold stepR
  rw [List.isEmpty_nil]
  cases stepW true 0 [] (Lib.split s [32]) <;> rfl
theorem rstep_eq (s : List UInt8) (hs : s.length ≤ 100000) : ref13_Step s = some (match stepR s with | none => (⟨[], 0⟩, 4) | some x => if chk x ≠ 0 then (⟨[], 0⟩, chk x) else (x, 0)) := by
  unfold ref13_Step joinK
  rw [rcut_eq s [32] (by omega) (by simp) (by decide), Option.bind_some]
  dsimp only
  rw [fuel0]
  have ho := split_offs s [32] (by simp)
  have hl := offs_len 1 (by omega) (Lib.split s [32])
  have ho' : offs 1 (Lib.split s [32]) = s.length + 1 := ho
  refine Eq.trans (rstep_loop (Lib.split s [32]) (by omega) (Lib.split s [32]) [] 0 [] rfl (by simp)) ?_
  unfold stepR
  rw [List.isEmpty_nil]
  cases stepW true 0 [] (Lib.split s [32]) with
  | none => rfl
  | some x =>
    dsimp only
    split <;> rfl
/-! ### a text -/
def parseW (off : Nat) (acc : List Step) : List (List UInt8) → List Step × Int × Int
  | [] => (acc, 0, 0)
  | p :: r => if acc.length = 64 then ([], (off : Int), 5) else
    match stepR p with
    | none => ([], (off : Int), 4)
    | some x => if chk x ≠ 0 then ([], (off : Int), chk x) else parseW (off + (p.length + 2)) (acc ++ [x]) r
theorem lparse_loop (ps : List (List UInt8)) (hp : ∀ t ∈ ps, t.length ≤ 100000) (ho : offs 2 ps ≤ 1000000) : ∀ (r pre : List (List UInt8)) (acc : List Step), ps = pre ++ r → acc.length ≤ 64 →
    stroke_Parse_loop1 ps (r.length + 1) ((offs 2 pre : Nat) : Int) (pre.length : Int) acc = some (parseW (offs 2 pre) acc r)
  | [], pre, acc, e, ha => by
    unfold stroke_Parse_loop1
    rw [e, ge_end, if_neg (by simp)]
    rfl
  | x :: r, pre, acc, e, ha => by
    have hlen : ps.length = pre.length + (r.length + 1) := by rw [e]; simp
    have hll := offs_len 2 (by omega) ps
    have hat : at? ps (pre.length : Int) = some x := by rw [e]; exact at?_mid
    have hx := hp x (by rw [e]; simp)
    have hso : offs 2 pre ≤ 1000000 := by rw [e, offs_append] at ho; omega
    have l2 : (([59, 32] : List UInt8).length : Int) = 2 := rfl
    unfold stroke_Parse_loop1
    rw [if_pos (by rw [decide_eq_true_eq]; omega), hat, Option.bind_some, parseW]
    by_cases h64 : acc.length = 64
    · rw [if_pos (by rw [beq_iff_eq]; omega), if_pos h64]
    · rw [if_neg (by rw [beq_iff_eq]; omega), if_neg h64, lstep_eq x hx, Option.bind_some]
      cases hs : stepR x with
      | none => rfl
      | some y =>
        dsimp only
        by_cases hc : chk y = 0
        · rw [if_neg (by simpa using hc), if_neg (fun q => q hc), appO_ok (by simp; omega) (by decide), Option.bind_some, l2, wrap64 (x := (x.length : Int) + 2) (by omega) (by omega), wrap64 (x := ((offs 2 pre : Nat) : Int) + ((x.length : Int) + 2)) (by omega) (by omega), wrap64 (x := (pre.length : Int) + 1) (by omega) (by omega)]
          have ih := lparse_loop ps hp ho r (pre ++ [x]) (acc ++ [y]) (by rw [e, mid_cons]) (by simp; omega)
          have e2 : (((pre ++ [x]).length : Nat) : Int) = (pre.length : Int) + 1 := by simp
          have e3 : ((offs 2 (pre ++ [x]) : Nat) : Int) = ((offs 2 pre : Nat) : Int) + ((x.length : Int) + 2) := by rw [offs_snoc]; omega
          rw [e2, e3, offs_snoc] at ih
          exact ih
        · rw [if_pos (by simpa using hc), if_pos hc]
theorem rparse_loop (ps : List (List UInt8)) (hp : ∀ t ∈ ps, t.length ≤ 100000) (ho : offs 2 ps ≤ 1000000) : ∀ (r pre : List (List UInt8)) (acc : List Step), ps = pre ++ r → acc.length ≤ 64 → acc.length = pre.length →
    ref13_Parse_loop1 ps (fun l3 => some (l3, 0, 0)) (r.length + 1) ((offs 2 pre : Nat) : Int) (pre.length : Int) acc = some (parseW (offs 2 pre) acc r)
  | [], pre, acc, e, ha, hal => by
    unfold ref13_Parse_loop1
    rw [e, ge_end, if_neg (by simp)]
    rfl
  | x :: r, pre, acc, e, ha, hal => by
    have hlen : ps.length = pre.length + (r.length + 1) := by rw [e]; simp
    have hll := offs_len 2 (by omega) ps
    have hat : at? ps (pre.length : Int) = some x := by rw [e]; exact at?_mid
    have hx := hp x (by rw [e]; simp)
    have hso : offs 2 pre ≤ 1000000 := by rw [e, offs_append] at ho; omega
    unfold ref13_Parse_loop1
    rw [if_pos (by rw [decide_eq_true_eq]; omega), hat, parseW]
    by_cases h64 : acc.length = 64
    · rw [if_pos (by rw [beq_iff_eq]; omega), if_pos h64]
    · rw [if_neg (by rw [beq_iff_eq]; omega), if_neg h64]
      simp only [Option.bind_some]
      have hr := rstep_eq x hx
      cases hs : stepR x with
      | none =>
        rw [hs] at hr
        rw [hr]
        rfl
      | some y =>
        rw [hs] at hr
        dsimp only at hr ⊢
        by_cases hc : chk y = 0
        · have hn : ¬ chk y ≠ 0 := fun q => q hc
          rw [if_neg hn] at hr ⊢
          rw [hr, Option.bind_some]
          dsimp only
          rw [if_neg (by decide), appO_ok (by simp; omega) (by decide), Option.bind_some, wrap64 (x := (x.length : Int) + 2) (by omega) (by omega), wrap64 (x := ((offs 2 pre : Nat) : Int) + ((x.length : Int) + 2)) (by omega) (by omega), wrap64 (x := (pre.length : Int) + 1) (by omega) (by omega)]
          have ih := rparse_loop ps hp ho r (pre ++ [x]) (acc ++ [y]) (by rw [e, mid_cons]) (by simp; omega) (by simp; omega)
          have e2 : (((pre ++ [x]).length : Nat) : Int) = (pre.length : Int) + 1 := by simp
          have e3 : ((offs 2 (pre ++ [x]) : Nat) : Int) = ((offs 2 pre : Nat) : Int) + ((x.length : Int) + 2) := by rw [offs_snoc]; omega
          rw [e2, e3, offs_snoc] at ih
          exact ih
        · have hn : chk y ≠ 0 := hc
          rw [if_pos hn] at hr ⊢
          rw [hr, Option.bind_some]
          dsimp only
          rw [if_pos (by simpa using hc)]
def parseR (s : List UInt8) : List Step × Int × Int := if 4096 < s.length then ([], 0, 17) else if s = [] then ([], 0, 0) else parseW 0 [] (Lib.split s [59, 32])
theorem split_mem {s by_ t : List UInt8} (hb : by_ ≠ []) (h : t ∈ Lib.split s by_) : t.length ≤ s.length := by
  have ho := split_offs s by_ hb
  have : ∀ l : List (List UInt8), t ∈ l → t.length + by_.length ≤ offs by_.length l := by
    intro l
    induction l with
    | nil => intro h; simp at h
    | cons y l ih =>
      intro h
      rw [offs_cons]
      rcases List.mem_cons.1 h with rfl | h
      · omega
      · have := ih h; omega
  have := this _ h
  omega
theorem lparse_eq (s : List UInt8) : stroke_Parse s = some (parseR s) := by
  unfold stroke_Parse parseR
  by_cases h : 4096 < s.length
  · rw [if_pos (by rw [decide_eq_true_eq]; omega), if_pos h]
  · rw [if_neg (by rw [decide_eq_true_eq]; omega), if_neg h]
    by_cases h0 : s = []
    · rw [if_pos (by simpa using h0), if_pos h0]
    · rw [if_neg (by simpa using h0), if_neg h0, splitS_eq (by omega) (by decide), Option.bind_some, fuel0]
      have ho : offs 2 (Lib.split s [59, 32]) = s.length + 2 := split_offs s [59, 32] (by simp)
      exact lparse_loop (Lib.split s [59, 32]) (fun t ht => by have := split_mem (by simp) ht; omega) (by omega) (Lib.split s [59, 32]) [] [] rfl (by simp)
theorem rparse_eq (s : List UInt8) : ref13_Parse s = some (parseR s) := by
  unfold ref13_Parse parseR
  by_cases h : 4096 < s.length
  · rw [if_pos (by rw [decide_eq_true_eq]; omega), if_pos h]
  · rw [if_neg (by rw [decide_eq_true_eq]; omega), if_neg h]
    by_cases h0 : s = []
    · rw [if_pos (by simpa using h0), if_pos h0]
    · rw [if_neg (by simpa using h0), if_neg h0, rcut_eq s [59, 32] (by omega) (by simp) (by decide), Option.bind_some]
      unfold joinK
      dsimp only
      rw [fuel0]
      have ho : offs 2 (Lib.split s [59, 32]) = s.length + 2 := split_offs s [59, 32] (by simp)
      exact rparse_loop (Lib.split s [59, 32]) (fun t ht => by have := split_mem (by simp) ht; omega) (by omega) (Lib.split s [59, 32]) [] [] rfl (by simp) rfl
/-! ### equal lists of steps -/
theorem parseW_good : ∀ (r : List (List UInt8)) (off : Nat) (acc : List Step), acc.length ≤ 64 → (∀ x ∈ acc, GoodS x) → (parseW off acc r).1.length ≤ 64 ∧ ∀ x ∈ (parseW off acc r).1, GoodS x
  | [], off, acc, ha, hg => by rw [parseW]; exact ⟨ha, hg⟩
  | p :: r, off, acc, ha, hg => by
    rw [parseW]
    split
    · simp
    · split
      · simp
      · rename_i x hx
        split
        · simp
        · rename_i hc
          exact parseW_good r _ _ (by simp; omega) (fun z hz => by
            rcases List.mem_append.1 hz with hz | hz
            · exact hg z hz
            · rw [List.mem_singleton.1 hz]; exact chk_zero.1 (Decidable.not_not.1 hc))
theorem parseR_good (s : List UInt8) : (parseR s).1.length ≤ 64 ∧ ∀ x ∈ (parseR s).1, GoodS x := by
  unfold parseR
  split
  · simp
  · split
    · simp
    · exact parseW_good _ 0 [] (by simp) (by simp)
end Go.Proofs.YtbhcojijafbdiaaGreatDoor.W
