/- The plain laws of programs: trees of nodes, their sizes and depths. No program in sight. -/
import Derived.Test.YtgpfgnpdbmbknaaGreatDoorLawL
set_option linter.unusedVariables false
set_option linter.unusedSimpArgs false
set_option maxHeartbeats 2000000
set_option linter.unusedSectionVars false
namespace Go.Proofs.YtgpfgnpdbmbknaaGreatDoor.W
open Go Go.RowKit
/-! ### lists gone through till a step says no -/
def runL {σ X : Type} (step : σ → X → Option (Bool × σ)) : List X → σ → Option (Bool × σ)
 | [], z => some (true, z)
 | a :: l, z => (step z a).bind fun q => if q.1 = true then runL step l q.2 else some (false, q.2)
theorem runL_append {σ X : Type} (step : σ → X → Option (Bool × σ)) (b : List X) : ∀ (a : List X) (z : σ), runL step (a ++ b) z = (runL step a z).bind fun q => if q.1 = true then runL step b q.2 else some (false, q.2)
 | [], z => by simp [runL]
 | x :: a, z => by
  rw [List.cons_append, runL, runL, Option.bind_assoc]
  congr 1
  funext q
  split
  · exact runL_append step b a q.2
  · rename_i h
    rw [Option.bind_some, if_neg (by simp)]
/-! ### bounds of an argument -/
theorem GoodN.sub {x y : Node} (h : GoodN x) (hy : y ∈ x.nodes) : GoodN y := by cases h with | mk _ _ _ _ h4 => exact h4 y hy
theorem GoodN.len {x : Node} (h : GoodN x) : x.nodes.length ≤ maxLen := by cases h with | mk _ _ _ h3 _ => exact h3
theorem GoodN.name {x : Node} (h : GoodN x) : x.name.length ≤ maxLen := by cases h with | mk _ _ h2 _ _ => exact h2
theorem GoodN.strokes {x : Node} (h : GoodN x) : x.step.strokes.length ≤ maxLen := by cases h with | mk _ h1 _ _ _ => exact h1
/-- a place among as many as there can be -/
theorem wrap_max {α : Type} {x : α} {pre r l : List α} (e : l = pre ++ x :: r) (h : l.length ≤ maxLen) : IntKind.wrap .i64 ((pre.length : Int) + 1) = ((pre ++ [x]).length : Int) := by
 rw [maxLen_eq] at h
 have : pre.length + 1 ≤ l.length := by rw [e]; simp
 rw [wrap64 (by omega) (by omega)]
 simp
/-! ### sizes and depths -/
def deepN : Nat → Node → Bool
 | 0, _ => false
 | d + 1, x => x.nodes.all (deepN d)
def cntT : Nat → Node → Nat
 | 0, _ => 1
 | d + 1, x => 1 + (x.nodes.map (cntT d)).sum
theorem cntT_pos : ∀ (d : Nat) (x : Node), 1 ≤ cntT d x
 | 0, x => Nat.le_refl _
 | d + 1, x => by rw [cntT]; omega
theorem deepN_sub {d : Nat} {x y : Node} (h : deepN (d + 1) x = true) (hy : y ∈ x.nodes) : deepN d y = true := List.all_eq_true.1 (by simpa [deepN] using h) y hy
theorem mem_sum {α : Type} {f : α → Nat} {l : List α} {y : α} (hy : y ∈ l) : f y ≤ (l.map f).sum := by
 induction l with
 | nil => cases hy
 | cons a l ih =>
  rw [List.map_cons, List.sum_cons]
  rcases List.mem_cons.1 hy with rfl | hy
  · omega
  · have := ih hy; omega
theorem len_sum {α : Type} {f : α → Nat} {l : List α} (h : ∀ y ∈ l, 1 ≤ f y) : l.length ≤ (l.map f).sum := by
 induction l with
 | nil => simp
 | cons a l ih =>
  rw [List.map_cons, List.sum_cons, List.length_cons]
  have := h a (List.mem_cons_self ..)
  have := ih fun y hy => h y (List.mem_cons_of_mem _ hy)
  omega
theorem cntT_sub {d : Nat} {x y : Node} (hy : y ∈ x.nodes) : cntT d y + 1 ≤ cntT (d + 1) x := by
 rw [cntT]; have := mem_sum (f := cntT d) hy; omega
theorem cntT_len {d : Nat} {x : Node} : x.nodes.length + 1 ≤ cntT (d + 1) x := by
 rw [cntT]; have := len_sum (f := cntT d) (l := x.nodes) fun y _ => cntT_pos d y; omega
theorem sum_congr {α : Type} {f g : α → Nat} {l : List α} (h : ∀ y ∈ l, f y = g y) : (l.map f).sum = (l.map g).sum := by
 rw [List.map_congr_left h]
theorem cntT_deep : ∀ {d e : Nat} {x : Node}, d ≤ e → deepN (d + 1) x = true → cntT e x = cntT d x
 | 0, 0, x, _, _ => rfl
 | 0, e + 1, x, _, h => by
  have hn : x.nodes = [] := by
   cases hq : x.nodes with
   | nil => rfl
   | cons y r => have := deepN_sub h (y := y) (by rw [hq]; exact List.mem_cons_self ..); cases this
  rw [cntT, cntT, hn]
  rfl
 | d + 1, 0, x, he, _ => by omega
 | d + 1, e + 1, x, he, h => by
  rw [cntT, cntT, sum_congr fun y hy => cntT_deep (by omega) (deepN_sub h hy)]
theorem min_sum {α : Type} {f g : α → Nat} {m : Nat} {l : List α} (h : ∀ y ∈ l, min (f y) m = min (g y) m) : min (l.map f).sum m = min (l.map g).sum m := by
 induction l with
 | nil => rfl
 | cons a l ih =>
  have h1 := h a (List.mem_cons_self ..)
  have h2 := ih fun y hy => h y (List.mem_cons_of_mem _ hy)
  rw [List.map_cons, List.map_cons, List.sum_cons, List.sum_cons]
  omega
/-- a count within a bound asks for no more depth than the bound -/
theorem cntT_min : ∀ (d e : Nat) (x : Node), d ≤ e → min (cntT d x) (d + 1) = min (cntT e x) (d + 1)
 | 0, e, x, _ => by have := cntT_pos e x; have := cntT_pos 0 x; omega
 | d + 1, 0, x, he => by omega
 | d + 1, e + 1, x, he => by
  have := min_sum (f := cntT d) (g := cntT e) (m := d + 1) (l := x.nodes) fun y _ => cntT_min d e y (by omega)
  rw [cntT, cntT]
  omega
/-! ### the reference's count and depth -/
theorem rcount_loop (x : Node) (g : x.nodes.length ≤ maxLen) (most : Nat) (hm : most ≤ 100000) (self : Node → Int → Option Int) (hs : ∀ y ∈ x.nodes, ∀ m : Nat, m + 1 ≤ most → self y (m : Int) = some ((min (cntT m y) (m + 1) : Nat) : Int)) (k : Int → Option Int) :
 ∀ (r pre : List Node) (n : Nat), x.nodes = pre ++ r → 1 ≤ n → n ≤ most + 1 → ref15_count_loop1 x (most : Int) self k (r.length + 1) (n : Int) (pre.length : Int) = k ((min (n + (r.map (cntT (most - 1))).sum) (most + 1) : Nat) : Int)
 | [], pre, n, e, h1, h2 => by
  rw [ref15_count_loop1, e, ge_end, Bool.false_and, if_neg (by simp)]
  congr 2
  simp
  omega
 | y :: r, pre, n, e, h1, h2 => by
  have ih := fun n => rcount_loop x g most hm self hs k r (pre ++ [y]) n (by rw [e, mid_cons])
  have hw := wrap_max e g
  rw [List.length_cons, ref15_count_loop1, e, lt_mid, Bool.true_and]
  by_cases hn : n ≤ most
  · have hy : y ∈ x.nodes := by rw [e]; simp
    rw [if_pos (by rw [decide_eq_true_eq]; omega), at?_mid, Option.bind_some, wrap64 (x := (most : Int) - (n : Int)) (by omega) (by omega), show (most : Int) - (n : Int) = ((most - n : Nat) : Int) by omega, hs y hy (most - n) (by omega), Option.bind_some, wrap64 (x := (n : Int) + _) (by omega) (by omega), hw]
    have e2 : (n : Int) + ((min (cntT (most - n) y) (most - n + 1) : Nat) : Int) = ((n + min (cntT (most - n) y) (most - n + 1) : Nat) : Int) := by omega
    rw [e2, ih _ (by omega) (by omega)]
    congr 2
    have := cntT_min (most - n) (most - 1) y (by omega)
    rw [List.map_cons, List.sum_cons]
    omega
  · rw [if_neg (by rw [decide_eq_true_eq]; omega)]
    congr 2
    omega
theorem rcount_eq : ∀ (n most : Nat) (x : Node), most + 1 ≤ n → n ≤ 100000 → GoodN x → ref15_count n x (most : Int) = some ((min (cntT most x) (most + 1) : Nat) : Int)
 | 0, most, x, h, _, g => by omega
 | n + 1, most, x, h, hn, g => by
  rw [ref15_count, ref15_count_body, joinK]
  have := rcount_loop x g.len most (by omega) (ref15_count n) (fun y hy m hm => rcount_eq n m y (by omega) (by omega) (g.sub hy)) (fun i3 => some i3) x.nodes [] 1 rfl (by omega) (by omega)
  rw [show ((1 : Nat) : Int) = 1 from rfl] at this
  refine this.trans ?_
  congr 2
  cases most with
  | zero => rw [cntT]; omega
  | succ m => rw [cntT]; rfl
theorem rdeep_loop (x : Node) (g : x.nodes.length ≤ maxLen) (most : Int) (self : Node → Int → Option Bool) (f : Node → Bool) (hs : ∀ y ∈ x.nodes, self y (IntKind.wrap .i64 (most - 1)) = some (f y)) :
 ∀ (r pre : List Node), x.nodes = pre ++ r → ref15_deep_loop1 x most self (some true) (r.length + 1) (pre.length : Int) = some (r.all f)
 | [], pre, e => by rw [ref15_deep_loop1, e, ge_end, if_neg (by simp)]; rfl
 | y :: r, pre, e => by
  have ih := rdeep_loop x g most self f hs r (pre ++ [y]) (by rw [e, mid_cons])
  have hw := wrap_max e g
  have hy : y ∈ x.nodes := by rw [e]; simp
  rw [List.length_cons, ref15_deep_loop1, e, lt_mid, if_pos rfl, at?_mid, Option.bind_some, hs y hy, Option.bind_some, hw, ih, List.all_cons]
  cases f y <;> simp
theorem rdeep_eq : ∀ (n d : Nat) (x : Node), d + 1 ≤ n → n ≤ 100000 → GoodN x → ref15_deep n x (d : Int) = some (deepN d x)
 | 0, d, x, h, _, g => by omega
 | n + 1, 0, x, h, hn, g => by rw [ref15_deep, ref15_deep_body, if_pos (by decide)]; rfl
 | n + 1, d + 1, x, h, hn, g => by
  rw [ref15_deep, ref15_deep_body, if_neg (by rw [decide_eq_true_eq]; omega)]
  by_cases hd : d = 0
  · subst hd
    rw [if_pos (by rfl), deepN]
    cases hq : x.nodes with
    | nil => rfl
    | cons y r => simp [deepN]; omega
  · rw [if_neg (by simp; omega), joinK, fuel0]
    refine rdeep_loop x g.len _ _ (deepN d) (fun y hy => ?_) x.nodes [] rfl
    rw [wrap64 (by omega) (by omega), show ((d + 1 : Nat) : Int) - 1 = (d : Int) by omega]
    exact rdeep_eq n d y (by omega) (by omega) (g.sub hy)
/-- not too many nodes, not too deep -/
def lightB (x : Node) : Bool := decide (cntT 16 x ≤ 256) && deepN 16 x
theorem light_iff {x : Node} : lightB x = true ↔ cntT 16 x ≤ 256 ∧ deepN 16 x = true := by
 rw [lightB, Bool.and_eq_true, decide_eq_true_eq]
theorem rlight_eq (x : Node) (g : GoodN x) : ref15_Light x = some (lightB x) := by
 rw [ref15_Light, show (256 : Int) = ((256 : Nat) : Int) from rfl, rcount_eq 600 256 x (by omega) (by omega) g, Option.bind_some, show (16 : Int) = ((16 : Nat) : Int) from rfl, rdeep_eq 600 16 x (by omega) (by omega) g, Option.bind_some]
 rw [lightB]
 cases hd : deepN 16 x with
 | false =>
  rw [Bool.and_false]
  split <;> rfl
 | true =>
  have := cntT_deep (d := 15) (e := 256) (x := x) (by omega) hd
  have := cntT_deep (d := 15) (e := 16) (x := x) (by omega) hd
  rw [Bool.and_true]
  by_cases hc : cntT 16 x ≤ 256
  · rw [if_pos (by rw [decide_eq_true_eq]; omega), decide_eq_true hc]; rfl
  · rw [if_neg (by rw [decide_eq_true_eq]; omega), decide_eq_false hc]; rfl
/-! ### the program's walk in preorder -/
def preL : Nat → Int → Node → List (Int × Node)
 | 0, k, x => [(k, x)]
 | m + 1, k, x => (k, x) :: x.nodes.flatMap (preL m (k + 1))
section
variable {σ : Type} (step : σ → (Int × Node) → Option (Bool × σ))
theorem pre_loop0 (x : Node) (g : x.nodes.length ≤ maxLen) (k : Int) (hk : ¬ k ≤ 16) (self : Node → Int → σ → Option (Bool × σ)) (K : σ → Option (Bool × σ)) :
 ∀ (r pre : List Node) (z : σ), x.nodes = pre ++ r → program_preorder_1_1_loop1 x k self K (r.length + 1) z (pre.length : Int) = K z
 | [], pre, z, e => by rw [program_preorder_1_1_loop1, e, ge_end, if_neg (by simp)]
 | y :: r, pre, z, e => by
  have ih := pre_loop0 x g k hk self K r (pre ++ [y]) z (by rw [e, mid_cons])
  have hw := wrap_max e g
  rw [List.length_cons, program_preorder_1_1_loop1, e, lt_mid, if_pos rfl, at?_mid, Option.bind_some, if_neg (by rw [decide_eq_true_eq]; exact hk), hw, ih]
theorem pre_loop (x : Node) (g : x.nodes.length ≤ maxLen) (k : Int) (h0 : 0 ≤ k) (hk : k ≤ 16) (self : Node → Int → σ → Option (Bool × σ)) (f : Node → List (Int × Node)) (hs : ∀ y ∈ x.nodes, ∀ z, self y (k + 1) z = runL step (f y) z) :
 ∀ (r pre : List Node) (z : σ), x.nodes = pre ++ r → program_preorder_1_1_loop1 x k self (fun z => some (true, z)) (r.length + 1) z (pre.length : Int) = runL step (r.flatMap f) z
 | [], pre, z, e => by rw [program_preorder_1_1_loop1, e, ge_end, if_neg (by simp)]; rfl
 | y :: r, pre, z, e => by
  have ih := fun z => pre_loop x g k h0 hk self f hs r (pre ++ [y]) z (by rw [e, mid_cons])
  have hw := wrap_max e g
  have hy : y ∈ x.nodes := by rw [e]; simp
  rw [List.length_cons, program_preorder_1_1_loop1, e, lt_mid, if_pos rfl, at?_mid, Option.bind_some, if_pos (by rw [decide_eq_true_eq]; exact hk), hw, wrap64 (x := k + 1) (by omega) (by omega), hs y hy, List.flatMap_cons, runL_append]
  congr 1
  funext q
  split
  · exact ih q.2
  · rfl
theorem pre_eq : ∀ (m n : Nat) (k : Int) (x : Node) (z : σ), k + m = 17 → 0 ≤ k → m < n → GoodN x → program_preorder_1_1 step n x k z = runL step (preL m k x) z
 | m, 0, k, x, z, _, _, h, _ => by omega
 | 0, n + 1, k, x, z, hk, h0, _, g => by
  rw [program_preorder_1_1, program_preorder_1_1_body, preL, runL]
  congr 1
  funext q
  split
  · rw [joinK]
    exact pre_loop0 x g.len k (by omega) _ _ x.nodes [] q.2 rfl
  · rfl
 | m + 1, n + 1, k, x, z, hk, h0, h, g => by
  rw [program_preorder_1_1, program_preorder_1_1_body, preL, runL]
  congr 1
  funext q
  split
  · rw [joinK]
    exact pre_loop step x g.len k h0 (by omega) _ (preL m (k + 1)) (fun y hy z => pre_eq m n (k + 1) y z (by omega) (by omega) (by omega) (g.sub hy)) x.nodes [] q.2 rfl
  · rfl
theorem preorder_eq (x : Node) (z : σ) (g : GoodN x) : program_preorder_1 step x z = runL step (preL 16 1 x) z := by
 rw [program_preorder_1, pre_eq step 16 600 1 x z (by omega) (by omega) (by omega) g]
 cases runL step (preL 16 1 x) z with
 | none => rfl
 | some q =>
  obtain ⟨b, s⟩ := q
  cases b <;> rfl
end
theorem light_run : ∀ (L : List (Int × Node)) (c : Nat), c ≤ 256 → ∃ q, runL program_light_rng1 L (c : Int) = some q ∧ (q.1 = true ↔ c + L.length ≤ 256 ∧ ∀ a ∈ L, a.1 ≤ 16)
 | [], c, h => ⟨_, rfl, by simp [h]⟩
 | a :: L, c, h => by
  rw [runL, program_light_rng1, wrap64 (x := (c : Int) + 1) (by omega) (by omega)]
  by_cases h1 : c + 1 ≤ 256 ∧ a.1 ≤ 16
  · obtain ⟨q, h2, h3⟩ := light_run L (c + 1) h1.1
    refine ⟨q, ?_, ?_⟩
    · rw [if_neg (by simp; omega), Option.bind_some, if_pos rfl]
      exact h2
    · rw [h3, List.length_cons]
      simp only [List.mem_cons, forall_eq_or_imp]
      exact ⟨fun q => ⟨by omega, h1.2, q.2⟩, fun q => ⟨by omega, q.2.2⟩⟩
  · refine ⟨_, by rw [if_pos (by simp; omega), Option.bind_some, if_neg (by simp)], ?_⟩
    rw [List.length_cons]
    simp only [List.mem_cons, forall_eq_or_imp, Bool.false_eq_true, false_iff]
    rintro ⟨q1, q2, _⟩
    exact h1 ⟨by omega, q2⟩
theorem preL_deep : ∀ (m : Nat) (k : Int) (x : Node), k + m = 17 → ((∀ a ∈ preL m k x, a.1 ≤ 16) ↔ deepN m x = true)
 | 0, k, x, h => by
  rw [preL, deepN]
  simp
  omega
 | m + 1, k, x, h => by
  rw [preL, deepN, List.all_eq_true]
  simp only [List.mem_cons, List.mem_flatMap, forall_eq_or_imp]
  constructor
  · rintro ⟨_, h2⟩ y hy
    exact (preL_deep m (k + 1) y (by omega)).1 fun a ha => h2 a ⟨y, hy, ha⟩
  · intro h2
    refine ⟨by show k ≤ 16; omega, ?_⟩
    rintro a ⟨y, hy, ha⟩
    exact (preL_deep m (k + 1) y (by omega)).2 (h2 y hy) a ha
theorem preL_len : ∀ (m : Nat) (k : Int) (x : Node), (preL m k x).length = cntT m x
 | 0, k, x => rfl
 | m + 1, k, x => by
  rw [preL, cntT, List.length_cons, List.length_flatMap, sum_congr fun y _ => preL_len m (k + 1) y]
  omega
theorem llight_eq (x : Node) (g : GoodN x) : program_light x = some (lightB x) := by
 obtain ⟨q, h1, h2⟩ := light_run (preL 16 1 x) 0 (by omega)
 rw [program_light, preorder_eq _ x _ g, show (0 : Int) = ((0 : Nat) : Int) from rfl, h1, Option.bind_some]
 rw [preL_len, preL_deep 16 1 x (by omega), Nat.zero_add] at h2
 have h3 : q.1 = lightB x := by rw [Bool.eq_iff_iff, h2, light_iff]
 rw [h3]
 cases lightB x <;> rfl
/-! ### a node alone -/
def noStep (x : Step) : Bool := decide (x.strokes = []) && x.wait == 0
def shapeB (x : Node) : Bool :=
 if x.kind = 0 then decide (x.nodes = []) && x.count == 0 && x.name == []
 else if x.kind = 1 then decide (x.nodes ≠ []) && noStep x.step && x.count == 0 && x.name == []
 else if x.kind = 2 then x.nodes.length == 1 && noStep x.step && x.name == []
 else x.nodes.length == 2 && noStep x.step && x.count == 0
def nodeE (x : Node) : Int :=
 if x.kind < 0 ∨ x.kind > 3 then 1 else if shapeB x = false then 3
 else if x.kind = 0 then chk x.step else if x.kind = 2 then (if x.count < 1 ∨ x.count > 64 then 2 else 0) else if x.kind = 3 then word x.name else 0
theorem len0 {α : Type} {l : List α} : ((l.length : Int) == 0) = decide (l = []) := by
 cases l with
 | nil => rfl
 | cons a l => simp; omega
theorem lenP {α : Type} {l : List α} : decide ((l.length : Int) > 0) = decide (l ≠ []) := by
 cases l with
 | nil => rfl
 | cons a l => simp
theorem lenN {α : Type} {l : List α} (k : Nat) : ((l.length : Int) == (k : Int)) = (l.length == k) := by
 rw [Bool.eq_iff_iff, beq_iff_eq, beq_iff_eq]; omega
theorem lenN' {α : Type} {l : List α} (k : Nat) : ((l.length : Int) != (k : Int)) = (l.length != k) := by
 rw [bne, bne, lenN]
theorem lalone_eq (x : Node) (h : x.name.length ≤ 100000) : program_alone x = some (nodeE x) := by
 obtain ⟨k, s, c, n, l⟩ := x
 dsimp only at h
 unfold program_alone nodeE joinK shapeB noStep
 dsimp only
 rw [lchk_eq, lword_eq _ (by omega), len0, lenP, lenP, show (1 : Int) = ((1 : Nat) : Int) from rfl, show (2 : Int) = ((2 : Nat) : Int) from rfl, lenN', lenN']
 simp only [Option.bind_some]
 by_cases h0 : k = 0
 · subst h0
   by_cases a : l = [] <;> by_cases b : c = 0 <;> by_cases d : n = [] <;> simp [a, b, d]
 · by_cases h1 : k = 1
   · subst h1
     by_cases a : l = [] <;> by_cases b : c = 0 <;> by_cases d : n = [] <;> by_cases e : s.strokes = [] <;> by_cases f : s.wait = 0 <;> simp [a, b, d, e, f]
   · by_cases h2 : k = 2
     · subst h2
       by_cases q : c < 1 ∨ 64 < c <;> by_cases a : l.length = 1 <;> by_cases d : n = [] <;> by_cases e : s.strokes = [] <;> by_cases f : s.wait = 0 <;> simp [a, d, e, f, q]
     · by_cases h3 : k = 3
       · subst h3
         by_cases a : l.length = 2 <;> by_cases b : c = 0 <;> by_cases e : s.strokes = [] <;> by_cases f : s.wait = 0 <;> simp [a, b, e, f]
       · have hk : k < 0 ∨ k > 3 := by omega
         rw [if_pos hk]
         simp [h0, h1, h2, h3]
theorem ralone_eq (x : Node) (h : x.name.length ≤ 100000) : ref15_node x = some (nodeE x) := by
 have hs : ref15_shape x = some (shapeB x) := by
  unfold ref15_shape shapeB noStep
  rw [len0, lenP, len0, show (1 : Int) = ((1 : Nat) : Int) from rfl, show (2 : Int) = ((2 : Nat) : Int) from rfl, lenN, lenN]
  simp only [beq_iff_eq]
  repeat' split
  all_goals rfl
 unfold ref15_node nodeE joinK
 dsimp only
 rw [hs, rchk_eq, rword_eq _ (by omega)]
 simp only [Option.bind_some, beq_iff_eq, Bool.or_eq_true, decide_eq_true_eq, Bool.not_eq_true']
 repeat' split
 all_goals first | rfl | (exfalso; omega)
/-! ### all of them -/
def firstE {α : Type} (f : α → Int) : List α → Int
 | [] => 0
 | a :: l => if f a ≠ 0 then f a else firstE f l
theorem firstE_zero {α : Type} {f : α → Int} : ∀ {l : List α}, firstE f l = 0 ↔ ∀ a ∈ l, f a = 0
 | [] => by simp [firstE]
 | a :: l => by
  rw [firstE]
  split
  · rename_i h
    constructor
    · intro q; exact absurd q h
    · intro q; exact q a (List.mem_cons_self ..)
  · rename_i h
    rw [firstE_zero]
    simp only [List.mem_cons, forall_eq_or_imp]
    exact ⟨fun q => ⟨Decidable.not_not.1 h, q⟩, fun q => q.2⟩
theorem firstE_append {α : Type} (f : α → Int) (b : List α) : ∀ a : List α, firstE f (a ++ b) = if firstE f a ≠ 0 then firstE f a else firstE f b
 | [] => by simp [firstE]
 | x :: a => by
  rw [List.cons_append, firstE, firstE, firstE_append f b a]
  by_cases h : f x = 0
  · simp only [h, ne_eq, not_true_eq_false, if_false]
  · simp only [h, ne_eq, not_false_eq_true, if_true]
theorem firstE_flatMap {α β : Type} (f : β → Int) (g : α → List β) : ∀ l : List α, firstE f (l.flatMap g) = firstE (fun y => firstE f (g y)) l
 | [] => rfl
 | x :: l => by rw [List.flatMap_cons, firstE_append, firstE, firstE_flatMap f g l]
theorem firstE_congr {α : Type} {f g : α → Int} : ∀ {l : List α}, (∀ a ∈ l, f a = g a) → firstE f l = firstE g l
 | [], _ => rfl
 | a :: l, h => by rw [firstE, firstE, h a (List.mem_cons_self ..), firstE_congr fun y hy => h y (List.mem_cons_of_mem _ hy)]
def nodesE : Nat → Node → Int
 | 0, x => nodeE x
 | d + 1, x => if nodeE x ≠ 0 then nodeE x else firstE (nodesE d) x.nodes
def checkN (x : Node) : Int := if lightB x = false then 5 else nodesE 16 x
/-- names are not too long -/
inductive NamOk : Node → Prop
 | mk (x : Node) (h : x.name.length ≤ 100000) (k : ∀ y ∈ x.nodes, NamOk y) : NamOk x
theorem NamOk.here {x : Node} (h : NamOk x) : x.name.length ≤ 100000 := by cases h with | mk _ h _ => exact h
theorem NamOk.sub {x y : Node} (h : NamOk x) (hy : y ∈ x.nodes) : NamOk y := by cases h with | mk _ _ k => exact k y hy
theorem preL_nam : ∀ (m : Nat) (k : Int) (x : Node), NamOk x → ∀ a ∈ preL m k x, a.2.name.length ≤ 100000
 | 0, k, x, h, a, ha => by
  rw [preL, List.mem_singleton] at ha
  rw [ha]
  exact h.here
 | m + 1, k, x, h, a, ha => by
  rw [preL] at ha
  rcases List.mem_cons.1 ha with rfl | ha
  · exact h.here
  · obtain ⟨y, hy, ha⟩ := List.mem_flatMap.1 ha
    exact preL_nam m (k + 1) y (h.sub hy) a ha
theorem check_run : ∀ (L : List (Int × Node)) (q : Int), (∀ a ∈ L, a.2.name.length ≤ 100000) → runL program_Check_rng1 L q = some (if firstE (fun a => nodeE a.2) L = 0 then (true, q) else (false, firstE (fun a => nodeE a.2) L))
 | [], q, h => by simp [runL, firstE]
 | a :: L, q, h => by
  rw [runL, program_Check_rng1, lalone_eq _ (h a (List.mem_cons_self ..)), Option.bind_some, firstE]
  by_cases h0 : nodeE a.2 = 0
  · have e : (if nodeE a.2 ≠ 0 then nodeE a.2 else firstE (fun a : Int × Node => nodeE a.2) L) = firstE (fun a : Int × Node => nodeE a.2) L := if_neg (by simpa using h0)
    rw [e, if_neg (by simpa using h0), Option.bind_some, if_pos rfl]
    exact check_run L q fun y hy => h y (List.mem_cons_of_mem _ hy)
  · have e : (if nodeE a.2 ≠ 0 then nodeE a.2 else firstE (fun a : Int × Node => nodeE a.2) L) = nodeE a.2 := if_pos h0
    rw [e, if_pos (by simpa using h0), Option.bind_some, if_neg (by simp), if_neg h0]
theorem nodesE_pre : ∀ (m : Nat) (k : Int) (x : Node), firstE (fun a : Int × Node => nodeE a.2) (preL m k x) = nodesE m x
 | 0, k, x => by
  rw [preL, nodesE, firstE, firstE]
  split
  · rfl
  · rename_i h; exact (Decidable.not_not.1 h).symm
 | m + 1, k, x => by rw [preL, nodesE, firstE, firstE_flatMap, firstE_congr fun y _ => nodesE_pre m (k + 1) y]
theorem lcheckN_eq (x : Node) (g : GoodN x) (h : lightB x = true → NamOk x) : program_Check x = some (checkN x) := by
 rw [program_Check, llight_eq x g, Option.bind_some, checkN]
 cases hl : lightB x with
 | false => rfl
 | true =>
  rw [if_neg (by simp), preorder_eq _ x _ g, check_run _ _ (preL_nam 16 1 x (h hl)), nodesE_pre, Option.bind_some]
  by_cases h0 : nodesE 16 x = 0 <;> simp [h0]
theorem rnodes_loop (x : Node) (g : x.nodes.length ≤ maxLen) (self : Node → Option Int) (f : Node → Int) (hs : ∀ y ∈ x.nodes, self y = some (f y)) :
 ∀ (r pre : List Node), x.nodes = pre ++ r → ref15_nodes_loop1 x self (some 0) (r.length + 1) (pre.length : Int) = some (firstE f r)
 | [], pre, e => by rw [ref15_nodes_loop1, e, ge_end, if_neg (by simp)]; rfl
 | y :: r, pre, e => by
  have ih := rnodes_loop x g self f hs r (pre ++ [y]) (by rw [e, mid_cons])
  have hw := wrap_max e g
  have hy : y ∈ x.nodes := by rw [e]; simp
  rw [List.length_cons, ref15_nodes_loop1, e, lt_mid, if_pos rfl, at?_mid, Option.bind_some, hs y hy, Option.bind_some, hw, ih, firstE]
  by_cases h0 : f y = 0
  · rw [if_neg (by simpa using h0), if_neg (by simpa using h0)]
  · rw [if_pos (by simpa using h0), if_pos h0]
theorem rnodes_eq : ∀ (n d : Nat) (x : Node), d ≤ n → deepN d x = true → GoodN x → NamOk x → ref15_nodes n x = some (nodesE d x)
 | n, 0, x, _, h, _, _ => by cases h
 | 0, d + 1, x, hd, _, _, _ => by omega
 | n + 1, d + 1, x, hd, h, g, k => by
  rw [ref15_nodes, ref15_nodes_body, ralone_eq _ k.here, Option.bind_some, nodesE]
  by_cases h0 : nodeE x = 0
  · rw [if_neg (by simpa using h0), joinK, fuel0, if_neg (by simpa using h0)]
    exact rnodes_loop x g.len _ (nodesE d) (fun y hy => rnodes_eq n d y (by omega) (deepN_sub h hy) (g.sub hy) (k.sub hy)) x.nodes [] rfl
  · rw [if_pos (by simpa using h0), if_pos h0]
theorem rcheckN_eq (x : Node) (g : GoodN x) (h : lightB x = true → NamOk x) : ref15_Check x = some (checkN x) := by
 rw [ref15_Check, rlight_eq x g, Option.bind_some, checkN]
 cases hl : lightB x with
 | false => rfl
 | true =>
  rw [if_neg (by simp), rnodes_eq 600 16 x (by omega) (light_iff.1 hl).2 g (h hl), Option.bind_some]
  simp
/-! ### right programs -/
inductive Right : Nat → Node → Prop
 | step (d : Nat) (s : Step) (h : chk s = 0) : Right (d + 1) ⟨0, s, 0, [], []⟩
 | list (d : Nat) (l : List Node) (h : l ≠ []) (hl : l.length ≤ 256) (k : ∀ y ∈ l, Right d y) : Right (d + 1) ⟨1, ⟨[], 0⟩, 0, [], l⟩
 | rep (d : Nat) (c : Int) (y : Node) (h0 : 1 ≤ c) (h1 : c ≤ 64) (h : Right d y) : Right (d + 1) ⟨2, ⟨[], 0⟩, c, [], [y]⟩
 | cho (d : Nat) (n : List UInt8) (a b : Node) (h : word n = 0) (ha : Right d a) (hb : Right d b) : Right (d + 1) ⟨3, ⟨[], 0⟩, 0, n, [a, b]⟩
theorem noStep_eq {s : Step} (h : noStep s = true) : s = ⟨[], 0⟩ := by
 obtain ⟨a, b⟩ := s
 simp [noStep] at h
 rw [h.1, h.2]
theorem right_of : ∀ (d : Nat) (x : Node), deepN d x = true → cntT d x ≤ 256 → nodesE d x = 0 → Right d x
 | 0, x, h, _, _ => by cases h
 | d + 1, x, h, hc, he => by
  rw [nodesE] at he
  have h0 : nodeE x = 0 := by
   apply Classical.byContradiction
   intro q
   rw [if_pos q] at he
   exact q he
  rw [if_neg (by simpa using h0), firstE_zero] at he
  have hsub : ∀ y ∈ x.nodes, Right d y := fun y hy => right_of d y (deepN_sub h hy) (by have := cntT_sub (d := d) hy; omega) (he y hy)
  have hlen := cntT_len (d := d) (x := x)
  obtain ⟨k, s, c, n, l⟩ := x
  unfold nodeE at h0
  dsimp only at h0 hsub hlen
  split at h0
  · cases h0
  · rename_i hk
    split at h0
    · cases h0
    · rename_i hs
      rw [Bool.not_eq_false] at hs
      unfold shapeB at hs
      dsimp only at hs
      split at h0
      · rename_i e
        rw [if_pos e] at hs
        simp at hs
        obtain ⟨⟨rfl, rfl⟩, rfl⟩ := hs
        rw [e]
        exact .step d s h0
      · rename_i e0
        rw [if_neg e0] at hs
        split at h0
        · rename_i e
          rw [if_neg (by omega), if_pos e] at hs
          simp at hs
          obtain ⟨⟨h1, h2⟩, rfl⟩ := hs
          obtain rfl := noStep_eq h2
          split at h0
          · cases h0
          · rename_i hcc
            match l, h1 with
            | [y], _ =>
             rw [e]
             exact .rep d c y (by omega) (by omega) (hsub y (List.mem_cons_self ..))
        · rename_i e2
          split at h0
          · rename_i e
            rw [if_neg (by omega), if_neg e2] at hs
            simp at hs
            obtain ⟨⟨h1, h2⟩, rfl⟩ := hs
            obtain rfl := noStep_eq h2
            match l, h1 with
            | [a, b], _ =>
             rw [e]
             exact .cho d n a b h0 (hsub a (by simp)) (hsub b (by simp))
          · rename_i e3
            have e : k = 1 := by omega
            rw [if_pos e] at hs
            simp at hs
            obtain ⟨⟨⟨h1, h2⟩, rfl⟩, rfl⟩ := hs
            obtain rfl := noStep_eq h2
            rw [e]
            exact .list d l h1 (by omega) hsub
theorem right_deep {d : Nat} {x : Node} (h : Right d x) : deepN d x = true := by
 induction h with
 | step d s h => rfl
 | list d l h hl k ih => rw [deepN, List.all_eq_true]; exact ih
 | rep d c y h0 h1 h ih => rw [deepN, List.all_eq_true]; intro z hz; rw [List.mem_singleton.1 hz]; exact ih
 | cho d n a b h ha hb iha ihb =>
  rw [deepN, List.all_eq_true]
  intro z hz
  rcases List.mem_cons.1 hz with rfl | hz
  · exact iha
  · rw [List.mem_singleton.1 hz]; exact ihb
theorem right_E {d : Nat} {x : Node} (h : Right d x) : nodesE d x = 0 := by
 have key : ∀ {d : Nat} {x : Node}, nodeE x = 0 → (∀ y ∈ x.nodes, nodesE d y = 0) → nodesE (d + 1) x = 0 := fun h0 k => by
  rw [nodesE, if_neg (by simpa using h0)]
  exact firstE_zero.2 k
 induction h with
 | step d s h => exact key (by simpa [nodeE, shapeB] using h) (fun y hy => by cases hy)
 | list d l h hl k ih => exact key (by simp [nodeE, shapeB, h, noStep]) ih
 | rep d c y h0 h1 h ih => exact key (by simp [nodeE, shapeB, noStep]; omega) (fun z hz => by rw [List.mem_singleton.1 hz]; exact ih)
 | cho d n a b h ha hb iha ihb => exact key (by simp [nodeE, shapeB, noStep, h]) (fun z hz => by
  rcases List.mem_cons.1 hz with rfl | hz
  · exact iha
  · rw [List.mem_singleton.1 hz]; exact ihb)
theorem word_len {s : List UInt8} (h : word s = 0) : s.length ≤ 24 := by
 unfold word at h
 repeat' split at h
 all_goals first | (cases h; done) | omega
theorem check_right {x : Node} : checkN x = 0 ↔ Right 16 x ∧ cntT 16 x ≤ 256 := by
 unfold checkN
 constructor
 · intro h
   split at h
   · cases h
   · rename_i hl
     obtain ⟨a, b⟩ := light_iff.1 (by simpa using hl)
     exact ⟨right_of 16 x b a h, a⟩
 · rintro ⟨a, b⟩
   rw [if_neg (by rw [light_iff.2 ⟨b, right_deep a⟩]; simp)]
   exact right_E a
/-! ### few -/
inductive ShortN : Node → Prop
 | mk (x : Node) (h1 : x.step.strokes.length ≤ 40) (h2 : x.name.length ≤ 60) (k : ∀ y ∈ x.nodes, ShortN y) : ShortN x
theorem ShortN.here {x : Node} (h : ShortN x) : x.step.strokes.length ≤ 40 ∧ x.name.length ≤ 60 := by cases h with | mk _ a b _ => exact ⟨a, b⟩
theorem ShortN.sub {x y : Node} (h : ShortN x) (hy : y ∈ x.nodes) : ShortN y := by cases h with | mk _ _ _ k => exact k y hy
theorem ShortN.nam {x : Node} (h : ShortN x) : NamOk x := by
 induction h with
 | mk x h1 h2 k ih => exact .mk x (by omega) ih
theorem short_loop (x : Node) (g : x.nodes.length ≤ maxLen) (self : Node → Option Bool) (f : Node → Bool) (hs : ∀ y ∈ x.nodes, self y = some (f y)) :
 ∀ (r pre : List Node), x.nodes = pre ++ r → ref15_short_loop1 x self (some true) (r.length + 1) (pre.length : Int) = some (r.all f)
 | [], pre, e => by rw [ref15_short_loop1, e, ge_end, if_neg (by simp)]; rfl
 | y :: r, pre, e => by
  have ih := short_loop x g self f hs r (pre ++ [y]) (by rw [e, mid_cons])
  have hw := wrap_max e g
  have hy : y ∈ x.nodes := by rw [e]; simp
  rw [List.length_cons, ref15_short_loop1, e, lt_mid, if_pos rfl, at?_mid, Option.bind_some, hs y hy, Option.bind_some, hw, ih, List.all_cons]
  cases f y <;> simp
def shortB : Nat → Node → Bool
 | 0, _ => false
 | d + 1, x => decide (x.step.strokes.length ≤ 40) && decide (x.name.length ≤ 60) && x.nodes.all (shortB d)
theorem short_eq15 : ∀ (n d : Nat) (x : Node), d ≤ n → deepN d x = true → GoodN x → ref15_short n x = some (shortB d x)
 | n, 0, x, _, h, _ => by cases h
 | 0, d + 1, x, hd, _, _ => by omega
 | n + 1, d + 1, x, hd, h, g => by
  rw [ref15_short, ref15_short_body, shortB, joinK, fuel0]
  have := short_loop x g.len (ref15_short n) (shortB d) (fun y hy => short_eq15 n d y (by omega) (deepN_sub h hy) (g.sub hy)) x.nodes [] rfl
  by_cases h1 : x.step.strokes.length ≤ 40
  · by_cases h2 : x.name.length ≤ 60
    · rw [if_neg (by simp; omega), decide_eq_true h1, decide_eq_true h2]
      exact this
    · rw [if_pos (by simp; omega), decide_eq_false h2]
      simp
  · rw [if_pos (by simp; omega), decide_eq_false h1]
    simp
theorem shortB_ok : ∀ (d : Nat) (x : Node), shortB d x = true → ShortN x
 | 0, x, h => by cases h
 | d + 1, x, h => by
  rw [shortB, Bool.and_eq_true, Bool.and_eq_true, decide_eq_true_eq, decide_eq_true_eq, List.all_eq_true] at h
  exact .mk x h.1.1 h.1.2 fun y hy => shortB_ok d y (h.2 y hy)
theorem few15_eq (x : Node) (g : GoodN x) : ∃ b, ref15_Few x = some b ∧ (b = true → lightB x = true → ShortN x ∧ cntT 16 x ≤ 30) := by
 rw [ref15_Few, show (512 : Int) = ((512 : Nat) : Int) from rfl, rcount_eq 600 512 x (by omega) (by omega) g, Option.bind_some, show (40 : Int) = ((40 : Nat) : Int) from rfl, rdeep_eq 600 40 x (by omega) (by omega) g]
 by_cases h1 : (decide (((min (cntT 512 x) (512 + 1) : Nat) : Int) > 30) && decide (((min (cntT 512 x) (512 + 1) : Nat) : Int) ≤ 256) || decide (((min (cntT 512 x) (512 + 1) : Nat) : Int) > ((512 : Nat) : Int))) = true
 · rw [if_pos h1]
   exact ⟨false, rfl, by simp⟩
 · rw [if_neg h1, Option.bind_some, Option.bind_some]
   cases hd : deepN 40 x with
   | false => exact ⟨false, rfl, by simp⟩
   | true =>
    rw [if_neg (by simp), short_eq15 600 40 x (by omega) hd g]
    have key : lightB x = true → cntT 512 x = cntT 16 x ∧ cntT 16 x ≤ 256 := fun hl => by
     obtain ⟨a, b⟩ := light_iff.1 hl
     have e1 := cntT_deep (d := 15) (e := 512) (x := x) (by omega) b
     have e2 := cntT_deep (d := 15) (e := 16) (x := x) (by omega) b
     exact ⟨by omega, a⟩
    by_cases h2 : decide (((min (cntT 512 x) (512 + 1) : Nat) : Int) > 256) = true
    · rw [if_pos h2]
      refine ⟨true, rfl, fun _ hl => ?_⟩
      have := key hl
      rw [decide_eq_true_eq] at h2
      omega
    · rw [if_neg h2]
      refine ⟨_, rfl, fun hb hl => ⟨shortB_ok 40 x hb, ?_⟩⟩
      have := key hl
      simp only [Bool.or_eq_true, Bool.and_eq_true, decide_eq_true_eq, not_or, not_and] at h1
      rw [decide_eq_true_eq] at h2
      omega
theorem fewNames_loop (l : List (List UInt8)) (K : Option Bool) (hl : l.length ≤ maxLen) : ∀ (r pre : List (List UInt8)), l = pre ++ r → ref15_FewNames_loop1 l K (r.length + 1) (pre.length : Int) = if (r.take (20 - pre.length)).all (fun s => decide (s.length ≤ 60)) = true then K else some false
 | [], pre, e => by
  rw [ref15_FewNames_loop1, e, ge_end, Bool.false_and, if_neg (by simp), if_pos (by simp)]
 | y :: r, pre, e => by
  have ih := fewNames_loop l K hl r (pre ++ [y]) (by rw [e, mid_cons])
  have hw := wrap_max e hl
  rw [List.length_cons, ref15_FewNames_loop1, e, lt_mid, Bool.true_and]
  by_cases h20 : pre.length < 20
  · rw [if_pos (by rw [decide_eq_true_eq]; omega), at?_mid, Option.bind_some, hw, ← e, ih]
    have e2 : (y :: r).take (20 - pre.length) = y :: r.take (20 - (pre ++ [y]).length) := by
     rw [show 20 - pre.length = (20 - (pre ++ [y]).length) + 1 by simp; omega, List.take_succ_cons]
    rw [e2, List.all_cons]
    by_cases h : y.length ≤ 60
    · rw [if_neg (by rw [decide_eq_true_eq]; omega), decide_eq_true h, Bool.true_and]
    · rw [if_pos (by rw [decide_eq_true_eq]; omega), decide_eq_false h, Bool.false_and, if_neg (by simp)]
  · rw [if_neg (by rw [decide_eq_true_eq]; omega), show 20 - pre.length = 0 by omega, if_pos (by simp)]
theorem fewNames_eq (l : List (List UInt8)) (hl : l.length ≤ maxLen) : ∃ b, ref15_FewNames l = some b ∧ (b = true → l.length ≤ 20 ∧ ∀ s ∈ l, s.length ≤ 60) := by
 rw [ref15_FewNames, joinK]
 have := fewNames_loop l (some (decide ((l.length : Int) ≤ 20))) hl l [] rfl
 refine ⟨_, this.trans (by rw [← apply_ite some]), fun h => ?_⟩
 split at h
 · rename_i hh
   rw [decide_eq_true_eq] at h
   have h20 : l.length ≤ 20 := by omega
   rw [List.take_of_length_le (by simpa using h20)] at hh
   exact ⟨h20, fun s hs => by simpa using List.all_eq_true.1 hh s hs⟩
 · cases h
theorem law_few (x : Node) (on : List (List UInt8)) (g : GoodN x) (hl : on.length ≤ maxLen) : ∃ b, law15_few x on = some b ∧ (b = true → (lightB x = true → ShortN x ∧ cntT 16 x ≤ 30) ∧ on.length ≤ 20 ∧ ∀ s ∈ on, s.length ≤ 60) := by
 obtain ⟨b, h1, h2⟩ := few15_eq x g
 obtain ⟨c, h3, h4⟩ := fewNames_eq on hl
 rw [law15_few, h1, h3, Option.bind_some]
 cases b with
 | false => exact ⟨false, rfl, by simp⟩
 | true => exact ⟨c, rfl, fun h => ⟨h2 rfl, h4 h⟩⟩
/-! ### motions -/
def mot : Nat → Node → Motion
 | 0, _ => .list []
 | d + 1, x => if x.kind = 0 then .single x.step else if x.kind = 1 then .list (x.nodes.map (mot d)) else if x.kind = 2 then .repeat_ x.count (mot d (x.nodes.headD x)) else .choice x.name (mot d (x.nodes.headD x)) (mot d ((x.nodes.drop 1).headD x))
section
variable {d : Nat} {s : Step} {l : List Node} {c : Int} {y a b : Node} {n : List UInt8}
theorem mot_step : mot (d + 1) ⟨0, s, 0, [], []⟩ = .single s := by simp [mot]
theorem mot_list : mot (d + 1) ⟨1, ⟨[], 0⟩, 0, [], l⟩ = .list (l.map (mot d)) := by simp [mot]
theorem mot_rep : mot (d + 1) ⟨2, ⟨[], 0⟩, c, [], [y]⟩ = .repeat_ c (mot d y) := by simp [mot]
theorem mot_cho : mot (d + 1) ⟨3, ⟨[], 0⟩, 0, n, [a, b]⟩ = .choice n (mot d a) (mot d b) := by simp [mot]
end
theorem of_loop (x : Node) (hl : x.nodes.length ≤ 1000) (self : Node → Option Motion) (f : Node → Motion) (hs : ∀ y ∈ x.nodes, self y = some (f y)) (K : List Motion → Option Motion) :
 ∀ (r pre : List Node), x.nodes = pre ++ r → program_of_loop1 x self K (r.length + 1) (pre.length : Int) (pre.map f) = K (x.nodes.map f)
 | [], pre, e => by rw [program_of_loop1, e, ge_end, if_neg (by simp), List.append_nil]
 | y :: r, pre, e => by
  have ih := of_loop x hl self f hs K r (pre ++ [y]) (by rw [e, mid_cons])
  have hy : y ∈ x.nodes := by rw [e]; simp
  have hpl0 : x.nodes.length = pre.length + (r.length + 1) := by rw [e]; simp
  have hpl : pre.length ≤ 1000 := by omega
  have hw := wrap_mid (x := y) (r := r) (pre := pre) (by rw [← e]; omega)
  rw [List.length_cons, program_of_loop1]
  rw [show decide ((pre.length : Int) < (x.nodes.length : Int)) = true by rw [e]; exact lt_mid, if_pos rfl, show at? x.nodes (pre.length : Int) = some y by rw [e]; exact at?_mid, Option.bind_some, hs y hy, Option.bind_some, appO_ok (by simp; omega) (by decide), Option.bind_some, hw]
  rw [List.map_append] at ih
  exact ih
theorem of_eq : ∀ (d n : Nat) (x : Node), d ≤ n → Right d x → program_of n x = some (mot d x) := by
 intro d n x hn h
 induction h generalizing n with
 | step d s h =>
  obtain ⟨n, rfl⟩ : ∃ k, n = k + 1 := ⟨n - 1, by omega⟩
  rw [mot_step]
  rfl
 | list d l h hl k ih =>
  obtain ⟨n, rfl⟩ : ∃ k, n = k + 1 := ⟨n - 1, by omega⟩
  rw [program_of, program_of_body, joinK, fuel0, mot_list]
  have := of_loop ⟨1, ⟨[], 0⟩, 0, [], l⟩ (by show l.length ≤ 1000; omega) (program_of n) (mot d) (fun y hy => ih y hy n (by omega))
  exact this _ l [] rfl
 | rep d c y h0 h1 h ih =>
  obtain ⟨n, rfl⟩ : ∃ k, n = k + 1 := ⟨n - 1, by omega⟩
  rw [program_of, program_of_body, joinK, fuel0, mot_rep]
  have := of_loop ⟨2, ⟨[], 0⟩, c, [], [y]⟩ (by simp) (program_of n) (mot d) (fun z hz => by rw [List.mem_singleton.1 hz]; exact ih n (by omega))
  exact this _ [y] [] rfl
 | cho d nm a b h ha hb iha ihb =>
  obtain ⟨n, rfl⟩ : ∃ k, n = k + 1 := ⟨n - 1, by omega⟩
  rw [program_of, program_of_body, joinK, fuel0, mot_cho]
  have := of_loop ⟨3, ⟨[], 0⟩, 0, nm, [a, b]⟩ (by simp) (program_of n) (mot d) (fun z hz => by
   rcases List.mem_cons.1 hz with rfl | hz
   · exact iha n (by omega)
   · rw [List.mem_singleton.1 hz]; exact ihb n (by omega))
  exact this _ [a, b] [] rfl
/-! ### which are chosen -/
section
variable {on : List (List UInt8)} {d : Nat} {s : Step} {l : List Node} {c : Int} {y a b : Node} {n : List UInt8}
end
/-! ### the length -/
section
variable {σ : Type} (step : σ → Step → Option (Bool × σ)) (on : List (List UInt8)) (self : (σ → Step → Option (Bool × σ)) → Motion → List (List UInt8) → σ → Option (Bool × σ))
end
/-! ### unfolded -/
/-! ### the reference -/
theorem awake_true : law15_awake = some true := by kernel_rfl
/-! ### the functions -/
def ifOk {α : Type} (x : Node) (z : α) (r : α × Int) : α × Int := if checkN x ≠ 0 then (z, checkN x) else r
section
variable (x : Node) (g : GoodN x) (hN : lightB x = true → NamOk x) (on : List (List UInt8)) (hon : on.length ≤ 1000000)
include g hN
theorem ok_of {α : Type} {f : Option (α × Int)} {z : α} {r : α × Int} (k : Right 16 x → cntT 16 x ≤ 256 → f = some r) (e : Int) (he : e = checkN x) : (if (e != 0) = true then some (z, e) else f) = some (ifOk x z r) := by
 subst he
 unfold ifOk
 by_cases h : checkN x = 0
 · rw [if_neg (by simpa using h), if_neg (by simpa using h)]
   exact k (check_right.1 h).1 (check_right.1 h).2
 · rw [if_pos (by simpa using h), if_pos h]
include hon
end
/-! ### equal programs -/
def all2 {α : Type} (f : α → α → Bool) : List α → List α → Bool
 | [], [] => true
 | x :: r, y :: q => f x y && all2 f r q
 | _, _ => false
def eqN : Nat → Node → Node → Bool
 | 0, _, _ => false
 | d + 1, a, b => a.kind == b.kind && sameB a.step b.step && a.count == b.count && a.name == b.name && all2 (eqN d) a.nodes b.nodes
inductive StrOk : Node → Prop
 | mk (x : Node) (h : x.step.strokes.length ≤ 100000) (h2 : x.nodes.length ≤ maxLen) (k : ∀ y ∈ x.nodes, StrOk y) : StrOk x
theorem StrOk.here {x : Node} (h : StrOk x) : x.step.strokes.length ≤ 100000 ∧ x.nodes.length ≤ maxLen := by cases h with | mk _ a b _ => exact ⟨a, b⟩
theorem StrOk.sub {x y : Node} (h : StrOk x) (hy : y ∈ x.nodes) : StrOk y := by cases h with | mk _ _ _ k => exact k y hy
theorem ShortN.str {x : Node} (h : ShortN x) (g : GoodN x) : StrOk x := by
 induction h with
 | mk x h1 h2 k ih => exact .mk x (by omega) g.len fun y hy => ih y hy (g.sub hy)
theorem all2_len {α : Type} {f : α → α → Bool} : ∀ {l q : List α}, l.length ≠ q.length → all2 f l q = false
 | [], [], h => absurd rfl h
 | [], _ :: _, _ => rfl
 | _ :: _, [], _ => rfl
 | x :: l, y :: q, h => by rw [all2, all2_len (fun e => h (by simp [e])), Bool.and_false]
theorem eqf_loop (s1 s2 : List Node) (hb : s1.length ≤ maxLen) (self : Node → Node → Option Bool) (f : Node → Node → Bool) (hs : ∀ x ∈ s1, ∀ y, self x y = some (f x y)) :
 ∀ (r q pre pre2 : List Node), s1 = pre ++ r → s2 = pre2 ++ q → pre.length = pre2.length → r.length = q.length → slices_EqualFunc_api_Node_api_Nodeapi_Nodeapi_Node_program_equal_loop1 s1 s2 self (some true) (r.length + 1) (pre.length : Int) = some (all2 f r q)
 | [], [], pre, pre2, e, _, _, _ => by
  rw [slices_EqualFunc_api_Node_api_Nodeapi_Nodeapi_Node_program_equal_loop1, end_mid e]
  rfl
 | x :: r, y :: q, pre, pre2, e, e2, hp, hl => by
  have ih := eqf_loop s1 s2 hb self f hs r q (pre ++ [x]) (pre2 ++ [y]) (by rw [e, mid_cons]) (by rw [e2, mid_cons]) (by simp [hp]) (by simpa using hl)
  have hw := wrap_max e hb
  have a1 : at? s1 (pre.length : Int) = some x := by rw [e]; exact at?_mid
  have a2 : at? s2 (pre.length : Int) = some y := by rw [e2, hp]; exact at?_mid
  rw [List.length_cons, slices_EqualFunc_api_Node_api_Nodeapi_Nodeapi_Node_program_equal_loop1, show decide ((pre.length : Int) < (s1.length : Int)) = true by rw [e]; exact lt_mid, if_pos rfl, a1, Option.bind_some, a2, Option.bind_some, hs x (by rw [e]; simp), Option.bind_some, hw, ih, all2]
  cases f x y <;> simp
 | [], _ :: _, _, _, _, _, _, h => by simp at h
 | _ :: _, [], _, _, _, _, _, h => by simp at h
theorem lequal_eq : ∀ (d n : Nat) (a b : Node), d ≤ n → deepN d a = true → StrOk a → program_equal n a b = some (eqN d a b)
 | 0, n, a, b, _, h, _ => by cases h
 | d + 1, 0, a, b, hn, _, _ => by omega
 | d + 1, n + 1, a, b, hn, h, k => by
  rw [program_equal, program_equal_body, lsame_eq _ _ k.here.1, eqN]
  have hE : slices_EqualFunc_api_Node_api_Nodeapi_Nodeapi_Node_program_equal (program_equal n) a.nodes b.nodes = some (all2 (eqN d) a.nodes b.nodes) := by
   rw [slices_EqualFunc_api_Node_api_Nodeapi_Nodeapi_Node_program_equal]
   by_cases hl : a.nodes.length = b.nodes.length
   · rw [if_neg (by simp; omega), joinK, fuel0]
     exact eqf_loop a.nodes b.nodes k.here.2 _ (eqN d) (fun x hx y => lequal_eq d n x y (by omega) (deepN_sub h hx) (k.sub hx)) a.nodes b.nodes [] [] rfl rfl rfl hl
   · rw [if_pos (by simp; omega), all2_len hl]
  rw [hE]
  cases a.kind == b.kind <;> cases sameB a.step b.step <;> cases a.count == b.count <;> cases a.name == b.name <;> simp
theorem rquery_loop (a b : Node) (hb : a.nodes.length ≤ maxLen) (self : Node → Node → Option Bool) (f : Node → Node → Bool) (hs : ∀ x ∈ a.nodes, ∀ y, self x y = some (f x y)) :
 ∀ (r q pre pre2 : List Node), a.nodes = pre ++ r → b.nodes = pre2 ++ q → pre.length = pre2.length → r.length = q.length → ref15_equal_loop1 a b self (some true) (r.length + 1) (pre.length : Int) = some (all2 f r q)
 | [], [], pre, pre2, e, _, _, _ => by
  rw [ref15_equal_loop1, end_mid e]
  rfl
 | x :: r, y :: q, pre, pre2, e, e2, hp, hl => by
  have ih := rquery_loop a b hb self f hs r q (pre ++ [x]) (pre2 ++ [y]) (by rw [e, mid_cons]) (by rw [e2, mid_cons]) (by simp [hp]) (by simpa using hl)
  have hw := wrap_max e hb
  have a1 : at? a.nodes (pre.length : Int) = some x := by rw [e]; exact at?_mid
  have a2 : at? b.nodes (pre.length : Int) = some y := by rw [e2, hp]; exact at?_mid
  rw [List.length_cons, ref15_equal_loop1, show decide ((pre.length : Int) < (a.nodes.length : Int)) = true by rw [e]; exact lt_mid, if_pos rfl, a1, Option.bind_some, a2, Option.bind_some, hs x (by rw [e]; simp), Option.bind_some, hw, ih, all2]
  cases f x y <;> simp
 | [], _ :: _, _, _, _, _, _, h => by simp at h
 | _ :: _, [], _, _, _, _, _, h => by simp at h
theorem requal_eq : ∀ (d n : Nat) (a b : Node), d ≤ n → deepN d a = true → StrOk a → ref15_equal n a b = some (eqN d a b)
 | 0, n, a, b, _, h, _ => by cases h
 | d + 1, 0, a, b, hn, _, _ => by omega
 | d + 1, n + 1, a, b, hn, h, k => by
  rw [ref15_equal, ref15_equal_body, rsame_eq _ _ k.here.1, eqN, joinK, fuel0]
  by_cases hl : a.nodes.length = b.nodes.length
  · have hE := rquery_loop a b k.here.2 _ (eqN d) (fun x hx y => requal_eq d n x y (by omega) (deepN_sub h hx) (k.sub hx)) a.nodes b.nodes [] [] rfl rfl rfl hl
    have h0 : ((([] : List Node).length : Nat) : Int) = 0 := rfl
    rw [h0] at hE
    have hl' : ((a.nodes.length : Int) != (b.nodes.length : Int)) = false := by simp; omega
    rw [hE, hl', bne, bne]
    cases a.kind == b.kind <;> cases sameB a.step b.step <;> cases a.count == b.count <;> cases a.name == b.name <;> simp
  · have hl' : ((a.nodes.length : Int) != (b.nodes.length : Int)) = true := by simp; omega
    rw [hl', Bool.or_true, if_pos rfl, Option.bind_some, if_pos rfl, all2_len hl, Bool.and_false]
def sameN (a b : Node) : Bool := lightB a && lightB b && eqN 16 a b
theorem lSame_eq (a b : Node) (ga : GoodN a) (gb : GoodN b) (k : lightB a = true → StrOk a) : program_Same a b = some (sameN a b) := by
 rw [program_Same, llight_eq a ga, llight_eq b gb, sameN]
 cases ha : lightB a with
 | false => rfl
 | true =>
  cases hb : lightB b with
  | false => rfl
  | true =>
   rw [lequal_eq 16 600 a b (by omega) (light_iff.1 ha).2 (k ha)]
   rfl
theorem rSame_eq (a b : Node) (ga : GoodN a) (gb : GoodN b) (k : lightB a = true → StrOk a) : ref15_Same a b = some (sameN a b) := by
 rw [ref15_Same, rlight_eq a ga, rlight_eq b gb, sameN]
 cases ha : lightB a with
 | false => rfl
 | true =>
  cases hb : lightB b with
  | false => rfl
  | true =>
   rw [requal_eq 16 600 a b (by omega) (light_iff.1 ha).2 (k ha)]
   rfl
/-! ### texts -/
def textN : Nat → Node → List UInt8
 | 0, _ => []
 | d + 1, x => if x.kind = 0 then lineS x.step else if x.kind = 1 then [123, 32] ++ Lib.join (x.nodes.map (textN d)) [59, 32] ++ [32, 125]
  else if x.kind = 2 then [114, 101, 112, 101, 97, 116, 32] ++ Lib.decDigits x.count.toNat ++ [32] ++ textN d (x.nodes.headD x)
  else [105, 102, 32] ++ x.name ++ [32] ++ textN d (x.nodes.headD x) ++ [32, 101, 108, 115, 101, 32] ++ textN d ((x.nodes.drop 1).headD x)
section
variable {d : Nat} {s : Step} {l : List Node} {c : Int} {y a b : Node} {n : List UInt8}
theorem textN_step : textN (d + 1) ⟨0, s, 0, [], []⟩ = lineS s := by simp [textN]
theorem textN_list : textN (d + 1) ⟨1, ⟨[], 0⟩, 0, [], l⟩ = [123, 32] ++ Lib.join (l.map (textN d)) [59, 32] ++ [32, 125] := by simp [textN]
theorem textN_rep : textN (d + 1) ⟨2, ⟨[], 0⟩, c, [], [y]⟩ = [114, 101, 112, 101, 97, 116, 32] ++ Lib.decDigits c.toNat ++ [32] ++ textN d y := by simp [textN]
theorem textN_cho : textN (d + 1) ⟨3, ⟨[], 0⟩, 0, n, [a, b]⟩ = [105, 102, 32] ++ n ++ [32] ++ textN d a ++ [32, 101, 108, 115, 101, 32] ++ textN d b := by simp [textN]
end
theorem lineS_len {s : Step} (g : GoodS s) : (lineS s).length ≤ 60 := by
 obtain ⟨h1, h2⟩ := words_len g
 have := join_len [32] 7 (words s) h2
 have : (words s).length * (7 + [32].length) ≤ 7 * 8 := Nat.mul_le_mul h1 (by simp)
 unfold lineS
 omega
theorem join_sum (sep : List UInt8) : ∀ l : List (List UInt8), (Lib.join l sep).length ≤ (l.map fun t => t.length + sep.length).sum
 | [] => by rw [Lib.join_nil]; simp
 | x :: r => by
  have : ∀ r : List (List UInt8), (Lib.joinTail sep r).length = (r.map fun t => t.length + sep.length).sum := by
   intro r
   induction r with
   | nil => simp [Lib.joinTail]
   | cons y r ih =>
    unfold Lib.joinTail at ih ⊢
    rw [List.map_cons, List.flatten_cons, List.length_append, List.length_append, ih, List.map_cons, List.sum_cons]
    omega
  rw [Lib.join_cons, List.length_append, this r, List.map_cons, List.sum_cons]
  omega
theorem sum_mul {α : Type} {f g : α → Nat} {m : Nat} {l : List α} (h : ∀ y ∈ l, f y ≤ m * g y) : (l.map f).sum ≤ m * (l.map g).sum := by
 induction l with
 | nil => simp
 | cons a l ih =>
  have h1 := h a (List.mem_cons_self ..)
  have h2 := ih fun y hy => h y (List.mem_cons_of_mem _ hy)
  rw [List.map_cons, List.map_cons, List.sum_cons, List.sum_cons, Nat.mul_add]
  omega
theorem textN_len {d : Nat} {x : Node} (h : Right d x) : (textN d x).length + 2 ≤ 80 * cntT d x := by
 induction h with
 | step d s h => rw [textN_step]; have := lineS_len (chk_zero.1 h); have := cntT_pos (d + 1) ⟨0, s, 0, [], []⟩; omega
 | list d l h hl k ih =>
  rw [textN_list, cntT]
  have h1 := join_sum [59, 32] (l.map (textN d))
  rw [List.map_map] at h1
  have h2 : (l.map ((fun t : List UInt8 => t.length + [(59 : UInt8), 32].length) ∘ textN d)).sum ≤ 80 * (l.map (cntT d)).sum := sum_mul fun y hy => ih y hy
  simp only [List.length_append, List.length_cons, List.length_nil]
  omega
 | rep d c y h0 h1 h ih =>
  have := dec7 (n := c.toNat) (by omega)
  rw [textN_rep, cntT]
  simp only [List.length_append, List.length_cons, List.length_nil, List.map_cons, List.map_nil, List.sum_cons, List.sum_nil]
  omega
 | cho d n a b h ha hb iha ihb =>
  have := word_len h
  rw [textN_cho, cntT]
  simp only [List.length_append, List.length_cons, List.length_nil, List.map_cons, List.map_nil, List.sum_cons, List.sum_nil]
  omega
theorem ltext_loop (m : Motion) (hl : m.prts.length ≤ 1000) (self : Motion → Option (List UInt8)) (f : Motion → List UInt8) (hs : ∀ y ∈ m.prts, self y = some (f y)) (K : List (List UInt8) → Option (List UInt8)) :
 ∀ (r pre : List Motion), m.prts = pre ++ r → program_text_loop1 m self K (r.length + 1) (pre.length : Int) (pre.map f) = K (m.prts.map f)
 | [], pre, e => by rw [program_text_loop1, end_mid e, if_neg (by simp), e, List.append_nil]
 | y :: r, pre, e => by
  obtain ⟨h1, h2, h3, h4, h5⟩ := step_mid e (by omega)
  have ih := ltext_loop m hl self f hs K r (pre ++ [y]) h4
  rw [List.length_cons, program_text_loop1, h1, if_pos rfl, h2, Option.bind_some, hs y (by rw [e]; simp), Option.bind_some, appO_ok (by simp; omega) (by decide), Option.bind_some, h3]
  rw [List.map_append] at ih
  exact ih
theorem ltext_eq : ∀ (d n : Nat) (x : Node), d ≤ n → Right d x → cntT d x ≤ 256 → program_text n (mot d x) = some (textN d x) := by
 intro d n x hn h
 induction h generalizing n with
 | step d s h =>
  intro hc
  obtain ⟨n, rfl⟩ : ∃ k, n = k + 1 := ⟨n - 1, by omega⟩
  rw [mot_step, program_text, program_text_body, joinK, if_pos (by rfl)]
  show (stroke_Format [s]).bind _ = _
  rw [lform_eq, Option.bind_some, formatR, if_neg (by simp), if_neg (by rw [errL, if_neg (by simpa using h), errL]; simp), textN_step]
  show some (Lib.join [lineS s] [59, 32]) = _
  rw [Lib.join_one]
 | list d l h hl k ih =>
  intro hc
  obtain ⟨n, rfl⟩ : ∃ k, n = k + 1 := ⟨n - 1, by omega⟩
  have hsub : ∀ y ∈ l, cntT d y ≤ 256 := fun y hy => by have := cntT_sub (d := d) (x := ⟨1, ⟨[], 0⟩, 0, [], l⟩) hy; omega
  have hlen := textN_len (Right.list d l h hl k)
  rw [textN_list] at hlen
  simp only [List.length_append, List.length_cons, List.length_nil] at hlen
  rw [mot_list, program_text, program_text_body, joinK, if_neg (by simp [Motion.isSingle]), if_pos (by rfl), joinK, fuel0]
  have hs : ∀ m ∈ (Motion.list (l.map (mot d))).prts, program_text n m = some ((fun m => (program_text n m).getD []) m) := fun m hm => by
   obtain ⟨y, hy, rfl⟩ := List.mem_map.1 (show m ∈ l.map (mot d) from hm)
   show program_text n (mot d y) = some ((program_text n (mot d y)).getD [])
   rw [ih y hy n (by omega) (hsub y hy)]
   rfl
  refine (ltext_loop (.list (l.map (mot d))) (by show (l.map (mot d)).length ≤ 1000; rw [List.length_map]; omega) (program_text n) _ hs _ (l.map (mot d)) [] rfl).trans ?_
  have e : ((Motion.list (l.map (mot d))).prts.map fun m => (program_text n m).getD []) = l.map (textN d) := by
   show ((l.map (mot d)).map fun m => (program_text n m).getD []) = _
   rw [List.map_map]
   refine List.map_congr_left fun y hy => ?_
   show (program_text n (mot d y)).getD [] = _
   rw [ih y hy n (by omega) (hsub y hy)]
   rfl
  rw [e, joinS_eq (by rw [List.length_map]; omega) (by omega), Option.bind_some, catO_small (by simp; omega), Option.bind_some, catO_small (by simp; omega), Option.bind_some, textN_list]
 | rep d c y h0 h1 h ih =>
  intro hc
  obtain ⟨n, rfl⟩ : ∃ k, n = k + 1 := ⟨n - 1, by omega⟩
  have hlen := textN_len (Right.rep d c y h0 h1 h)
  have hsub : cntT d y ≤ 256 := by have := cntT_sub (d := d) (x := ⟨2, ⟨[], 0⟩, c, [], [y]⟩) (y := y) (by simp); omega
  rw [textN_rep] at hlen
  simp only [List.length_append, List.length_cons, List.length_nil] at hlen
  rw [mot_rep, program_text, program_text_body, joinK, if_neg (by simp [Motion.isSingle]), if_neg (by simp [Motion.isList]), if_pos (by rfl)]
  show (itoa c).bind (fun r4 => (catO [114, 101, 112, 101, 97, 116, 32] r4).bind fun s3 => (catO s3 [32]).bind fun s4 => (program_text n (mot d y)).bind fun r5 => (catO s4 r5).bind fun s5 => some s5) = _
  rw [itoa_eq (by omega) (by omega), Option.bind_some, decT, catO_small (by simp; omega), Option.bind_some, catO_small (by simp; omega), Option.bind_some, ih n (by omega) hsub, Option.bind_some, catO_small (by simp; omega), Option.bind_some, textN_rep]
 | cho d nm a b h ha hb iha ihb =>
  intro hc
  obtain ⟨n, rfl⟩ : ∃ k, n = k + 1 := ⟨n - 1, by omega⟩
  have hlen := textN_len (Right.cho d nm a b h ha hb)
  have hsa : cntT d a ≤ 256 := by have := cntT_sub (d := d) (x := ⟨3, ⟨[], 0⟩, 0, nm, [a, b]⟩) (y := a) (by simp); omega
  have hsb : cntT d b ≤ 256 := by have := cntT_sub (d := d) (x := ⟨3, ⟨[], 0⟩, 0, nm, [a, b]⟩) (y := b) (by simp); omega
  rw [textN_cho] at hlen
  simp only [List.length_append, List.length_cons, List.length_nil] at hlen
  rw [mot_cho, program_text, program_text_body, joinK, if_neg (by simp [Motion.isSingle]), if_neg (by simp [Motion.isList]), if_neg (by simp [Motion.isRepeat]), if_pos (by rfl)]
  show (catO [105, 102, 32] nm).bind (fun s6 => (catO s6 [32]).bind fun s7 => (program_text n (mot d a)).bind fun r6 => (catO s7 r6).bind fun s8 => (catO s8 [32, 101, 108, 115, 101, 32]).bind fun s9 => (program_text n (mot d b)).bind fun r7 => (catO s9 r7).bind fun s10 => some s10) = _
  rw [catO_small (by simp; omega), Option.bind_some, catO_small (by simp; omega), Option.bind_some, iha n (by omega) hsa, Option.bind_some, catO_small (by simp; omega), Option.bind_some, catO_small (by simp; omega), Option.bind_some, ihb n (by omega) hsb, Option.bind_some, catO_small (by simp; omega), Option.bind_some, textN_cho]
theorem rtext_loop (l : List Node) (hl : l.length ≤ 1000) (self : Node → Option (List UInt8)) (f : Node → List UInt8) (hs : ∀ y ∈ l, self y = some (f y)) (hb : (Lib.join (l.map f) [59, 32]).length ≤ 1000000) (K : List UInt8 → Option (List UInt8)) :
 ∀ (r pre : List Node), l = pre ++ r → ref15_Text_loop1 ⟨1, ⟨[], 0⟩, 0, [], l⟩ self K (r.length + 1) ([123, 32] ++ Lib.join (pre.map f) [59, 32]) (pre.length : Int) = K ([123, 32] ++ Lib.join (l.map f) [59, 32])
 | [], pre, e => by
  rw [ref15_Text_loop1]
  show (if decide ((pre.length : Int) < (l.length : Int)) = true then _ else _) = _
  rw [end_mid e, if_neg (by simp), e, List.append_nil]
 | y :: r, pre, e => by
  obtain ⟨h1, h2, h3, h4, h5⟩ := step_mid e (by omega)
  have ih := rtext_loop l hl self f hs hb K r (pre ++ [y]) h4
  rw [List.length_cons, ref15_Text_loop1]
  show (if decide ((pre.length : Int) < (l.length : Int)) = true then joinK (fun s11 => (at? l (pre.length : Int)).bind _) _ else _) = _
  rw [h1, if_pos rfl, joinK, h2]
  have hj : (Lib.join ((pre ++ [y]).map f) [59, 32]).length ≤ 1000000 ∧ (Lib.join (pre.map f) [59, 32]).length + (f y).length ≤ 1000000 := by
   have key : ∀ (q p : List (List UInt8)), (Lib.join p [59, 32]).length ≤ (Lib.join (p ++ q) [59, 32]).length := by
    intro q
    induction q with
    | nil => intro p; rw [List.append_nil]; omega
    | cons z q ih =>
     intro p
     have := ih (p ++ [z])
     rw [List.append_assoc, List.singleton_append] at this
     have h2 := join_snoc [59, 32] z p
     rw [h2] at this
     by_cases hp : p = []
     · rw [hp, Lib.join_nil]; simp
     · rw [if_neg hp] at this
       simp only [List.length_append] at this
       omega
   have k1 := key (r.map f) ((pre ++ [y]).map f)
   rw [← List.map_append, ← h4] at k1
   refine ⟨by omega, ?_⟩
   have h2 := join_snoc [59, 32] (f y) (pre.map f)
   rw [show (pre ++ [y]).map f = pre.map f ++ [f y] by simp, h2] at k1
   split at k1
   · rename_i hp; rw [hp, Lib.join_nil]; simp; omega
   · simp only [List.length_append] at k1; omega
  have hjs := join_snoc [59, 32] (f y) (pre.map f)
  rw [List.map_append, List.map_cons, List.map_nil, hjs] at ih
  by_cases hp : pre = []
  · subst hp
    rw [if_neg (by simp)]
    dsimp only
    rw [Option.bind_some, hs y (by rw [e]; simp), Option.bind_some, catO_small (by simp [Lib.join_nil]; simp at hj; omega), Option.bind_some, h3]
    rw [List.map_nil, if_pos rfl] at ih
    rw [List.map_nil, Lib.join_nil]
    exact ih
  · have hpos : 0 < pre.length := List.length_pos_iff.2 hp
    rw [if_pos (by rw [decide_eq_true_eq]; omega), catO_small (by simp; omega), Option.bind_some]
    dsimp only
    rw [Option.bind_some, hs y (by rw [e]; simp), Option.bind_some, catO_small (by simp; omega), Option.bind_some, h3]
    rw [if_neg (by simpa using hp)] at ih
    simpa [List.append_assoc] using ih
theorem rtext_eq : ∀ (d n : Nat) (x : Node), d ≤ n → Right d x → cntT d x ≤ 256 → ref15_Text n x = some (textN d x) := by
 intro d n x hn h
 induction h generalizing n with
 | step d s h =>
  intro hc
  obtain ⟨n, rfl⟩ : ∃ k, n = k + 1 := ⟨n - 1, by omega⟩
  rw [ref15_Text, ref15_Text_body, if_pos (by rfl), rline_eq s (chk_zero.1 h), Option.bind_some, textN_step]
 | list d l h hl k ih =>
  intro hc
  obtain ⟨n, rfl⟩ : ∃ k, n = k + 1 := ⟨n - 1, by omega⟩
  have hsub : ∀ y ∈ l, cntT d y ≤ 256 := fun y hy => by have := cntT_sub (d := d) (x := ⟨1, ⟨[], 0⟩, 0, [], l⟩) hy; omega
  have hlen := textN_len (Right.list d l h hl k)
  rw [textN_list] at hlen
  simp only [List.length_append, List.length_cons, List.length_nil] at hlen
  rw [ref15_Text, ref15_Text_body, if_neg (by simp), if_neg (by simp), if_neg (by simp), joinK, fuel0]
  have := rtext_loop l (by omega) (ref15_Text n) (textN d) (fun y hy => ih y hy n (by omega) (hsub y hy)) (by omega) (fun s13 => (catO s13 [32, 125]).bind fun s14 => some s14) l [] rfl
  rw [List.map_nil, Lib.join_nil, List.append_nil] at this
  refine this.trans ?_
  rw [catO_small (by simp; omega), Option.bind_some, textN_list]
 | rep d c y h0 h1 h ih =>
  intro hc
  obtain ⟨n, rfl⟩ : ∃ k, n = k + 1 := ⟨n - 1, by omega⟩
  have hlen := textN_len (Right.rep d c y h0 h1 h)
  have hsub : cntT d y ≤ 256 := by have := cntT_sub (d := d) (x := ⟨2, ⟨[], 0⟩, c, [], [y]⟩) (y := y) (by simp); omega
  rw [textN_rep] at hlen
  simp only [List.length_append, List.length_cons, List.length_nil] at hlen
  rw [ref15_Text, ref15_Text_body, if_neg (by simp), if_pos (by rfl)]
  show (ref12_Digits c).bind (fun r2 => (catO [114, 101, 112, 101, 97, 116, 32] r2).bind fun s1 => (catO s1 [32]).bind fun s2 => (some y).bind fun x1 => (ref15_Text n x1).bind fun r3 => (catO s2 r3).bind fun s3 => some s3) = _
  have hd : ref12_Digits c = some (Lib.decDigits c.toNat) := by
   have := digits_big c.toNat (by omega)
   rwa [show ((c.toNat : Nat) : Int) = c by omega] at this
  rw [hd, Option.bind_some, catO_small (by simp; omega), Option.bind_some, catO_small (by simp; omega), Option.bind_some, Option.bind_some, ih n (by omega) hsub, Option.bind_some, catO_small (by simp; omega), Option.bind_some, textN_rep]
 | cho d nm a b h ha hb iha ihb =>
  intro hc
  obtain ⟨n, rfl⟩ : ∃ k, n = k + 1 := ⟨n - 1, by omega⟩
  have hlen := textN_len (Right.cho d nm a b h ha hb)
  have hsa : cntT d a ≤ 256 := by have := cntT_sub (d := d) (x := ⟨3, ⟨[], 0⟩, 0, nm, [a, b]⟩) (y := a) (by simp); omega
  have hsb : cntT d b ≤ 256 := by have := cntT_sub (d := d) (x := ⟨3, ⟨[], 0⟩, 0, nm, [a, b]⟩) (y := b) (by simp); omega
  rw [textN_cho] at hlen
  simp only [List.length_append, List.length_cons, List.length_nil] at hlen
  rw [ref15_Text, ref15_Text_body, if_neg (by simp), if_neg (by simp), if_pos (by rfl)]
  show (catO [105, 102, 32] nm).bind (fun s4 => (catO s4 [32]).bind fun s5 => (some a).bind fun x2 => (ref15_Text n x2).bind fun r4 => (catO s5 r4).bind fun s6 => (catO s6 [32, 101, 108, 115, 101, 32]).bind fun s7 => (some b).bind fun x3 => (ref15_Text n x3).bind fun r5 => (catO s7 r5).bind fun s8 => some s8) = _
  rw [catO_small (by simp; omega), Option.bind_some, catO_small (by simp; omega), Option.bind_some, Option.bind_some, iha n (by omega) hsa, Option.bind_some, catO_small (by simp; omega), Option.bind_some, catO_small (by simp; omega), Option.bind_some, Option.bind_some, ihb n (by omega) hsb, Option.bind_some, catO_small (by simp; omega), Option.bind_some, textN_cho]
def fmtN (x : Node) : List UInt8 × Int := if (textN 16 x).length > 4096 then ([], 17) else (textN 16 x, 0)
section
variable (x : Node) (g : GoodN x) (hN : lightB x = true → NamOk x)
include g hN
theorem lFormat_eq : program_Format x = some (ifOk x [] (fmtN x)) := by
 rw [program_Format, lcheckN_eq x g hN, Option.bind_some]
 refine ok_of x g hN (fun h hc => ?_) _ rfl
 rw [of_eq 16 600 x (by omega) h, Option.bind_some, ltext_eq 16 600 x (by omega) h hc, Option.bind_some, fmtN]
 by_cases hl : (textN 16 x).length > 4096
 · rw [if_pos (by rw [decide_eq_true_eq]; omega), if_pos hl]
 · rw [if_neg (by rw [decide_eq_true_eq]; omega), if_neg hl]
theorem rFormat_eq : ref15_Format x = some (ifOk x [] (fmtN x)) := by
 rw [ref15_Format, rcheckN_eq x g hN, Option.bind_some]
 refine ok_of x g hN (fun h hc => ?_) _ rfl
 rw [rtext_eq 16 600 x (by omega) h hc, Option.bind_some, fmtN]
 by_cases hl : (textN 16 x).length > 4096
 · rw [if_pos (by rw [decide_eq_true_eq]; omega), if_pos hl]
 · rw [if_neg (by rw [decide_eq_true_eq]; omega), if_neg hl]
end
abbrev Txt := List UInt8
theorem bLess : ∀ (x y : Txt), Op.bytesLess x y = decide (x < y)
 | [], [] => by simp [Op.bytesLess]
 | _ :: _, [] => by simp [Op.bytesLess]
 | [], _ :: _ => by simp [Op.bytesLess]
 | a :: x, b :: y => by
  rw [Op.bytesLess, bLess x y]
  simp only [List.cons_lt_cons_iff]
  by_cases h1 : a < b <;> by_cases h2 : a = b <;> by_cases h3 : x < y <;> simp [h1, h2, h3]
theorem txt_irrefl {a : Txt} (h : a < a) : False := List.lt_irrefl a h
/-! ### the names in a program -/
def namesN : Nat → Node → List Txt
 | 0, x => if x.kind = 3 then [x.name] else []
 | d + 1, x => (if x.kind = 3 then [x.name] else []) ++ x.nodes.flatMap (namesN d)
theorem inputs_run : ∀ (L : List (Int × Node)) (acc : List Txt), acc.length + L.length ≤ 100000 → runL program_inputs_rng1 L acc = some (true, acc ++ L.flatMap fun a => if a.2.kind = 3 then [a.2.name] else [])
 | [], acc, _ => by simp [runL]
 | a :: L, acc, h => by
  rw [List.length_cons] at h
  rw [runL, program_inputs_rng1, joinK]
  by_cases h3 : a.2.kind = 3
  · rw [if_pos (by simpa using h3), appO_ok (by simp; omega) (by decide), Option.bind_some, Option.bind_some, if_pos rfl, inputs_run L (acc ++ [a.2.name]) (by simp; omega), List.flatMap_cons, if_pos h3]
    simp
  · rw [if_neg (by simpa using h3), Option.bind_some, if_pos rfl, inputs_run L acc (by omega), List.flatMap_cons, if_neg h3]
    simp
theorem namesN_pre : ∀ (m : Nat) (k : Int) (x : Node), (preL m k x).flatMap (fun a => if a.2.kind = 3 then [a.2.name] else []) = namesN m x
 | 0, k, x => by simp [preL, namesN]
 | m + 1, k, x => by
  rw [preL, namesN, List.flatMap_cons, List.flatMap_assoc]
  congr 1
  induction x.nodes with
  | nil => rfl
  | cons y r ih => rw [List.flatMap_cons, List.flatMap_cons, ih, namesN_pre m (k + 1) y]
theorem namesN_len : ∀ (d : Nat) (x : Node), (namesN d x).length ≤ cntT d x
 | 0, x => by rw [namesN, cntT]; split <;> simp
 | d + 1, x => by
  rw [namesN, cntT, List.length_append, List.length_flatMap]
  have h1 : (x.nodes.map fun y => (namesN d y).length).sum ≤ 1 * (x.nodes.map (cntT d)).sum := sum_mul fun y _ => by have := namesN_len d y; omega
  have h2 : (if x.kind = 3 then [x.name] else []).length ≤ 1 := by split <;> simp
  omega
/-- in ascending order, each once -/
def Up (l : List Txt) : Prop := l.Pairwise (· < ·)
theorem up_unique : ∀ {a b : List Txt}, Up a → Up b → (∀ s, s ∈ a ↔ s ∈ b) → a = b
 | [], [], _, _, _ => rfl
 | [], y :: b, _, _, h => absurd ((h y).2 (List.mem_cons_self ..)) (by simp)
 | x :: a, [], _, _, h => absurd ((h x).1 (List.mem_cons_self ..)) (by simp)
 | x :: a, y :: b, ha, hb, h => by
  obtain ⟨ha1, ha2⟩ := List.pairwise_cons.1 ha
  obtain ⟨hb1, hb2⟩ := List.pairwise_cons.1 hb
  have e : x = y := by
   rcases List.mem_cons.1 ((h x).1 (List.mem_cons_self ..)) with e | h1
   · exact e
   · rcases List.mem_cons.1 ((h y).2 (List.mem_cons_self ..)) with e | h2
     · exact e.symm
     · exact absurd (List.lt_trans (hb1 x h1) (ha1 y h2)) txt_irrefl
  subst e
  congr 1
  refine up_unique ha2 hb2 fun s => ⟨fun hs => ?_, fun hs => ?_⟩
  · rcases List.mem_cons.1 ((h s).1 (List.mem_cons_of_mem _ hs)) with e | h1
    · rw [e] at hs; exact absurd (ha1 x hs) txt_irrefl
    · exact h1
  · rcases List.mem_cons.1 ((h s).2 (List.mem_cons_of_mem _ hs)) with e | h1
    · rw [e] at hs; exact absurd (hb1 x hs) txt_irrefl
    · exact h1
/-! ### sorted and compacted -/
theorem compact_props (zs : List Txt) (hs : zs.Pairwise (· ≤ ·)) : ∀ m, m ≤ zs.length → (∀ x, x ∈ Go.Lib.compactUpTo zs.toArray m ↔ x ∈ zs.take m) ∧ Up (Go.Lib.compactUpTo zs.toArray m)
 | 0, _ => by simp [Go.Lib.compactUpTo, Up]
 | m + 1, hm => by
  obtain ⟨h1, h2⟩ := compact_props zs hs m (by omega)
  have hm' : m < zs.length := by omega
  have hd : zs.toArray[m]! = zs[m] := by simp [hm']
  have ht : zs.take (m + 1) = zs.take m ++ [zs[m]] := by rw [List.take_add_one, List.getElem?_eq_getElem hm']; rfl
  have hle : ∀ x ∈ zs.take m, x ≤ zs[m] := fun x hx => by
   obtain ⟨i, hi, rfl⟩ := List.getElem_of_mem hx
   rw [List.getElem_take]
   rw [List.length_take] at hi
   exact List.pairwise_iff_getElem.1 hs i m (by omega) hm' (by omega)
  rw [Go.Lib.compactUpTo_succ, hd, ht]
  by_cases hk : Go.Lib.keeps zs.toArray m = true
  · rw [if_pos hk]
    refine ⟨fun x => by rw [List.mem_append, List.mem_append, h1], List.pairwise_append.2 ⟨h2, List.pairwise_singleton .., fun x hx y hy => ?_⟩⟩
    rw [List.mem_singleton.1 hy]
    have hx' := (h1 x).1 hx
    refine Std.lt_of_le_of_ne (hle x hx') fun e => ?_
    unfold Go.Lib.keeps at hk
    rw [decide_eq_true_eq] at hk
    rcases hk with h0 | hk
    · subst h0; simp at hx'
    · apply hk
      have hp : 0 < m := by
       cases m with
       | zero => simp at hx'
       | succ m => omega
      have hd2 : zs.toArray[m - 1]! = zs[m - 1] := by simp [show m - 1 < zs.length by omega]
      rw [hd, hd2]
      obtain ⟨i, hi, hxe⟩ := List.getElem_of_mem hx'
      rw [List.getElem_take] at hxe
      rw [List.length_take] at hi
      have a1 : zs[i] ≤ zs[m - 1] := by
       by_cases q : i = m - 1
       · subst q; exact List.le_refl _
       · exact List.pairwise_iff_getElem.1 hs i (m - 1) (by omega) (by omega) (by omega)
      have a2 : zs[m - 1] ≤ zs[m] := List.pairwise_iff_getElem.1 hs (m - 1) m (by omega) hm' (by omega)
      rw [hxe, e] at a1
      exact List.le_antisymm a1 a2
  · rw [if_neg hk, List.append_nil]
    refine ⟨fun x => ?_, h2⟩
    rw [List.mem_append, h1, List.mem_singleton]
    refine ⟨.inl, fun q => q.elim id fun e => ?_⟩
    have hk' : Go.Lib.keeps zs.toArray m = false := by simpa using hk
    unfold Go.Lib.keeps at hk'
    rw [decide_eq_false_iff_not, not_or, Classical.not_not] at hk'
    have hp : 0 < m := by omega
    have hd2 : zs.toArray[m - 1]! = zs[m - 1] := by simp [show m - 1 < zs.length by omega]
    rw [hd, hd2] at hk'
    rw [e, hk'.2]
    refine List.mem_iff_getElem.2 ⟨m - 1, by rw [List.length_take]; omega, ?_⟩
    rw [List.getElem_take]
/-- texts in ascending order, each once -/
def setN (l : List Txt) : List Txt := Go.Lib.compact (l.mergeSort fun x y => decide (x ≤ y))
theorem setN_props (l : List Txt) : (∀ x, x ∈ setN l ↔ x ∈ l) ∧ Up (setN l) := by
 have hs : (l.mergeSort fun x y => decide (x ≤ y)).Pairwise (· ≤ ·) := by
  have := List.pairwise_mergeSort (le := fun x y : Txt => decide (x ≤ y)) (fun a b c h k => by rw [decide_eq_true_eq] at *; exact List.le_trans h k) (fun a b => by rw [Bool.or_eq_true, decide_eq_true_eq, decide_eq_true_eq]; exact List.le_total a b) l
  exact this.imp fun h => by simpa using h
 obtain ⟨h1, h2⟩ := compact_props _ hs _ (Nat.le_refl _)
 refine ⟨fun x => ?_, h2⟩
 unfold setN Go.Lib.compact
 rw [h1, List.take_length, List.mem_mergeSort]
theorem setN_len (l : List Txt) : (setN l).length ≤ l.length := by
 unfold setN Go.Lib.compact Go.Lib.compactUpTo
 rw [List.length_map]
 refine Nat.le_trans (List.length_filter_le ..) ?_
 simp
def inpN (x : Node) : List Txt := setN (namesN 16 x)
theorem linputs_eq (x : Node) (g : GoodN x) (hc : cntT 16 x ≤ 256) : program_inputs x = some (inpN x) := by
 have hl := namesN_len 16 x
 rw [program_inputs, preorder_eq _ x _ g, inputs_run _ _ (by rw [preL_len]; simp; omega), Option.bind_some, if_pos rfl, List.nil_append, namesN_pre]
 show (sortS (namesN 16 x)).bind _ = _
 rw [sortS, if_pos (by omega), Option.bind_some, compactS, if_pos (by rw [List.length_mergeSort]; omega), Option.bind_some]
 rfl
/-! ### the reference -/
def putGo (s : Txt) : Bool → List Txt → List Txt
 | done, [] => if done = true then [] else [s]
 | done, a :: l => (if (!done && !(Op.bytesLess a s)) = true then [s] else []) ++ (if a = s then [] else [a]) ++ putGo s (done || !(Op.bytesLess a s)) l
theorem put_loop (L : List Txt) (s : Txt) (hl : L.length ≤ 1000000) : ∀ (r pre acc : List Txt) (done : Bool), L = pre ++ r → acc.length ≤ 2 * pre.length + 1 → ref15_Put_loop1 L s (fun c5 l6 => joinK (fun l8 => some l8) fun k4 => if (!c5) = true then (appO 16 l6 ([s] : List Txt)).bind fun _ => k4 (l6 ++ ([s] : List Txt)) else k4 l6) (r.length + 1) done (pre.length : Int) acc = some (acc ++ putGo s done r)
 | [], pre, acc, done, e, ha => by
  have hpl : L.length = pre.length := by rw [e]; simp
  rw [ref15_Put_loop1, end_mid e, if_neg (by simp), joinK, putGo]
  cases done with
  | true => simp
  | false => rw [if_pos (by simp), appO_ok (by simp; omega) (by decide)]; simp
 | a :: r, pre, acc, done, e, ha => by
  obtain ⟨h1, h2, h3, h4, h5⟩ := step_mid e (by omega)
  have ih := fun acc done => put_loop L s hl r (pre ++ [a]) acc done h4
  have hp : (pre ++ [a]).length = pre.length + 1 := by simp
  rw [List.length_cons, ref15_Put_loop1, h1, if_pos rfl, joinK, joinK, h2, h3, putGo]
  have second : ∀ (c3 : Bool) (l3 : List Txt), l3.length ≤ 2 * pre.length + 2 → (Option.bind (some a) fun x2 => if (!(x2 == s)) = true then (Option.bind (some a) fun x3 => (appO 16 l3 ([x3] : List Txt)).bind fun _ => ref15_Put_loop1 L s (fun c5 l6 => joinK (fun l8 => some l8) fun k4 => if (!c5) = true then (appO 16 l6 ([s] : List Txt)).bind fun _ => k4 (l6 ++ ([s] : List Txt)) else k4 l6) (r.length + 1) c3 ((pre ++ [a]).length : Int) (l3 ++ ([x3] : List Txt))) else ref15_Put_loop1 L s (fun c5 l6 => joinK (fun l8 => some l8) fun k4 => if (!c5) = true then (appO 16 l6 ([s] : List Txt)).bind fun _ => k4 (l6 ++ ([s] : List Txt)) else k4 l6) (r.length + 1) c3 ((pre ++ [a]).length : Int) l3) = some (l3 ++ ((if a = s then [] else [a]) ++ putGo s c3 r)) := by
   intro c3 l3 hl3
   rw [Option.bind_some]
   by_cases he : a = s
   · rw [if_neg (by simp [he]), if_pos he, ih l3 c3 (by omega), List.nil_append]
   · rw [if_pos (by simpa using he), if_neg he, Option.bind_some, appO_ok (by simp; omega) (by decide), Option.bind_some, ih _ c3 (by simp; omega)]
     simp
  cases done with
  | true =>
   rw [if_neg (by simp), Option.bind_some, if_neg (by simp)]
   dsimp only
   rw [second true acc (by omega)]
   simp
  | false =>
   rw [if_pos (by simp), Option.bind_some, Option.bind_some]
   cases hb : Op.bytesLess a s with
   | true =>
    rw [if_neg (by simp)]
    dsimp only
    rw [second false acc (by omega)]
    simp
   | false =>
    rw [if_pos (by simp), appO_ok (by simp; omega) (by decide), Option.bind_some]
    dsimp only
    rw [second true _ (by simp; omega)]
    simp
theorem put_eq (l : List Txt) (s : Txt) (hl : l.length ≤ 1000000) : ref15_Put l s = some (putGo s false l) := by
 rw [ref15_Put, joinK, fuel0]
 exact put_loop l s hl l [] [] false rfl (by simp)
theorem putGo_true (s : Txt) : ∀ {l : List Txt}, (∀ a ∈ l, a ≠ s) → putGo s true l = l
 | [], _ => by simp [putGo]
 | a :: l, h => by
  rw [putGo, if_neg (by simp), if_neg (h a (List.mem_cons_self ..)), Bool.true_or, putGo_true s fun b hb => h b (List.mem_cons_of_mem _ hb)]
  simp
theorem putGo_props (s : Txt) : ∀ {l : List Txt}, Up l → (∀ x, x ∈ putGo s false l ↔ x = s ∨ x ∈ l) ∧ Up (putGo s false l)
 | [], _ => by simp [putGo, Up]
 | a :: l, h => by
  obtain ⟨h1, h2⟩ := List.pairwise_cons.1 h
  rw [putGo, bLess]
  by_cases hb : a < s
  · have hne : a ≠ s := fun e => by rw [e] at hb; exact txt_irrefl hb
    obtain ⟨q1, q2⟩ := putGo_props s h2
    rw [decide_eq_true hb, if_neg (by simp), if_neg hne]
    simp only [List.nil_append, Bool.not_true, Bool.or_false, List.singleton_append]
    refine ⟨fun x => ?_, List.pairwise_cons.2 ⟨fun y hy => ?_, q2⟩⟩
    · rw [List.mem_cons, q1, List.mem_cons]
      constructor
      · rintro (e | e | e)
        · exact .inr (.inl e)
        · exact .inl e
        · exact .inr (.inr e)
      · rintro (e | e | e)
        · exact .inr (.inl e)
        · exact .inl e
        · exact .inr (.inr e)
    · rcases (q1 y).1 hy with e | hy
      · rw [e]; exact hb
      · exact h1 y hy
  · rw [decide_eq_false hb, if_pos (by simp)]
    simp only [Bool.not_false, Bool.or_true]
    by_cases he : a = s
    · subst he
      rw [if_pos rfl, putGo_true a fun b hb' e => by rw [e] at hb'; exact txt_irrefl (h1 a hb')]
      refine ⟨fun x => by simp, ?_⟩
      exact List.pairwise_cons.2 ⟨h1, h2⟩
    · have hs : s < a := Std.lt_of_le_of_ne (List.not_lt.1 hb) fun e => he e.symm
      rw [if_neg he, putGo_true s fun b hb' e => by rw [e] at hb'; exact txt_irrefl (List.lt_trans hs (h1 s hb'))]
      refine ⟨fun x => by simp, ?_⟩
      refine List.pairwise_cons.2 ⟨fun y hy => ?_, h⟩
      rcases List.mem_cons.1 hy with e | hy
      · rw [e]; exact hs
      · exact List.lt_trans hs (h1 y hy)
theorem putGo_len (s : Txt) : ∀ (l : List Txt) (b : Bool), (putGo s b l).length ≤ l.length + 1 ∧ (b = true → (putGo s b l).length ≤ l.length)
 | [], b => by cases b <;> simp [putGo]
 | a :: l, b => by
  obtain ⟨h1, h2⟩ := putGo_len s l (b || !(Op.bytesLess a s))
  rw [putGo]
  have h3 : (if a = s then ([] : List Txt) else [a]).length ≤ 1 := by split <;> simp
  cases b with
  | true =>
   have := h2 (by simp)
   rw [if_neg (by simp)]
   simp only [List.nil_append, List.length_append, List.length_cons]
   exact ⟨by omega, fun _ => by omega⟩
  | false =>
   cases hb : Op.bytesLess a s with
   | true =>
    rw [hb] at h1
    rw [if_neg (by simp)]
    simp only [List.nil_append, List.length_append, List.length_cons]
    exact ⟨by omega, fun q => by cases q⟩
   | false =>
    rw [hb] at h2
    have := h2 (by simp)
    rw [if_pos (by simp)]
    simp only [List.length_append, List.length_cons, List.length_nil]
    exact ⟨by omega, fun q => by cases q⟩
def putAll (l : List Txt) (r : List Txt) : List Txt := r.foldl (fun l s => putGo s false l) l
theorem putAll_props : ∀ {r l : List Txt}, Up l → (∀ x, x ∈ putAll l r ↔ x ∈ l ∨ x ∈ r) ∧ Up (putAll l r)
 | [], l, h => ⟨fun x => by simp [putAll], h⟩
 | s :: r, l, h => by
  obtain ⟨h1, h2⟩ := putGo_props s h
  obtain ⟨h3, h4⟩ := putAll_props (r := r) h2
  refine ⟨fun x => ?_, h4⟩
  show x ∈ putAll (putGo s false l) r ↔ _
  rw [h3, h1, List.mem_cons]
  constructor
  · rintro ((e | e) | e)
    · exact .inr (.inl e)
    · exact .inl e
    · exact .inr (.inr e)
  · rintro (e | e | e)
    · exact .inl (.inr e)
    · exact .inl (.inl e)
    · exact .inr e
theorem putAll_len : ∀ (r l : List Txt), (putAll l r).length ≤ l.length + r.length
 | [], l => by simp [putAll]
 | s :: r, l => by
  have h1 := putAll_len r (putGo s false l)
  have h2 := (putGo_len s l false).1
  show (putAll (putGo s false l) r).length ≤ _
  rw [List.length_cons]
  omega
theorem asked_loop2 (r2 : List Txt) (K : List Txt → Option (List Txt)) (hl : r2.length ≤ 1000) : ∀ (r pre l : List Txt), r2 = pre ++ r → l.length ≤ 100000 + pre.length → ref15_Asked_loop2 K r2 (r.length + 1) l (pre.length : Int) = K (putAll l r)
 | [], pre, l, e, hb => by rw [ref15_Asked_loop2, end_mid e]; rfl
 | s :: r, pre, l, e, hb => by
  obtain ⟨h1, h2, h3, h4, h5⟩ := step_mid e (by omega)
  have hp := (putGo_len s l false).1
  rw [List.length_cons, ref15_Asked_loop2, h1, if_pos rfl, h2, Option.bind_some, put_eq l s (by omega), Option.bind_some, h3, asked_loop2 r2 K hl r (pre ++ [s]) _ h4 (by simp; omega)]
  rfl
def askN : Nat → Node → List Txt
 | 0, _ => []
 | d + 1, x => x.nodes.foldl (fun l y => putAll l (askN d y)) (if x.kind = 3 then putGo x.name false [] else [])
theorem foldl_props (f : Node → List Txt) (hf : ∀ y, Up (f y)) : ∀ (r : List Node) (l : List Txt), Up l → (∀ x, x ∈ r.foldl (fun l y => putAll l (f y)) l ↔ x ∈ l ∨ ∃ y ∈ r, x ∈ f y) ∧ Up (r.foldl (fun l y => putAll l (f y)) l)
 | [], l, h => ⟨fun x => by simp, h⟩
 | y :: r, l, h => by
  obtain ⟨h1, h2⟩ := putAll_props (r := f y) h
  obtain ⟨h3, h4⟩ := foldl_props f hf r _ h2
  refine ⟨fun x => ?_, h4⟩
  rw [List.foldl_cons, h3, h1]
  simp only [List.mem_cons, exists_eq_or_imp]
  exact or_assoc
theorem askN_up : ∀ (d : Nat) (x : Node), Up (askN d x)
 | 0, x => by simp [askN, Up]
 | d + 1, x => by
  rw [askN]
  refine (foldl_props _ (askN_up d) _ _ ?_).2
  split
  · exact (putGo_props _ (by simp [Up])).2
  · simp [Up]
theorem askN_mem : ∀ (d : Nat) (x : Node), deepN d x = true → ∀ s, s ∈ askN d x ↔ s ∈ namesN d x
 | 0, x, h, s => by cases h
 | d + 1, x, h, s => by
  rw [askN, (foldl_props _ (askN_up d) _ _ (by split; exact (putGo_props _ (by simp [Up])).2; simp [Up])).1, namesN, List.mem_append, List.mem_flatMap]
  refine or_congr ?_ ⟨?_, ?_⟩
  · split
    · rw [(putGo_props _ (by simp [Up])).1]; simp
    · exact Iff.rfl
  · rintro ⟨y, hy, q⟩; exact ⟨y, hy, (askN_mem d y (deepN_sub h hy) s).1 q⟩
  · rintro ⟨y, hy, q⟩; exact ⟨y, hy, (askN_mem d y (deepN_sub h hy) s).2 q⟩
theorem foldl_len (f : Node → List Txt) (c : Node → Nat) : ∀ (r : List Node) (l : List Txt), (∀ y ∈ r, (f y).length ≤ c y) → (r.foldl (fun l y => putAll l (f y)) l).length ≤ l.length + (r.map c).sum
 | [], l, _ => by simp
 | y :: r, l, h => by
  have h1 := putAll_len (f y) l
  have h2 := h y (List.mem_cons_self ..)
  have h3 := foldl_len f c r (putAll l (f y)) fun z hz => h z (List.mem_cons_of_mem _ hz)
  rw [List.foldl_cons, List.map_cons, List.sum_cons]
  omega
theorem askN_len : ∀ (d : Nat) (x : Node), (askN d x).length ≤ cntT d x
 | 0, x => by simp [askN]
 | d + 1, x => by
  rw [askN, cntT]
  have h1 := foldl_len (askN d) (cntT d) x.nodes (if x.kind = 3 then putGo x.name false [] else []) fun y _ => askN_len d y
  have h2 : (if x.kind = 3 then putGo x.name false [] else []).length ≤ 1 := by
   split
   · exact (putGo_len _ [] false).1
   · simp
  omega
theorem asked_loop (x : Node) (self : Node → Option (List Txt)) (f : Node → List Txt) (c : Node → Nat) (hs : ∀ y ∈ x.nodes, self y = some (f y)) (hc : ∀ y ∈ x.nodes, (f y).length ≤ c y) (hsum : (x.nodes.map c).sum ≤ 1000) (hl : x.nodes.length ≤ 1000) :
 ∀ (r pre : List Node) (l : List Txt), x.nodes = pre ++ r → l.length ≤ 10 + (pre.map c).sum → ref15_Asked_loop1 x self (fun l5 => some l5) (r.length + 1) l (pre.length : Int) = some (r.foldl (fun l y => putAll l (f y)) l)
 | [], pre, l, e, hb => by rw [ref15_Asked_loop1, end_mid e]; rfl
 | y :: r, pre, l, e, hb => by
  obtain ⟨h1, h2, h3, h4, h5⟩ := step_mid e (by omega)
  have hy : y ∈ x.nodes := by rw [e]; simp
  have hcy := hc y hy
  have hcs := mem_sum (f := c) hy
  have hps : (pre.map c).sum ≤ 1000 := by
   rw [e, List.map_append, List.sum_append] at hsum
   omega
  have hpl := putAll_len (f y) l
  have ih := asked_loop x self f c hs hc hsum hl r (pre ++ [y]) (putAll l (f y)) h4 (by rw [List.map_append, List.sum_append]; simp; omega)
  rw [List.length_cons, ref15_Asked_loop1, h1, if_pos rfl, joinK, h2, Option.bind_some, hs y hy, Option.bind_some, fuel0]
  refine (asked_loop2 (f y) _ (by omega) (f y) [] l rfl (by omega)).trans ?_
  rw [h3, ih]
  rfl
theorem asked_eq : ∀ (d n : Nat) (x : Node), d ≤ n → deepN d x = true → cntT d x ≤ 256 → ref15_Asked n x = some (askN d x)
 | 0, n, x, _, h, _ => by cases h
 | d + 1, 0, x, hn, _, _ => by omega
 | d + 1, n + 1, x, hn, h, hc => by
  have hlen := cntT_len (d := d) (x := x)
  have key : ∀ l : List Txt, l.length ≤ 1 → ref15_Asked_loop1 x (ref15_Asked n) (fun l5 => some l5) (x.nodes.length + 1) l 0 = some (x.nodes.foldl (fun l y => putAll l (askN d y)) l) := fun l hl =>
   asked_loop x (ref15_Asked n) (askN d) (cntT d) (fun y hy => asked_eq d n y (by omega) (deepN_sub h hy) (by have := cntT_sub (d := d) hy; omega)) (fun y _ => askN_len d y) (by rw [cntT] at hc; omega) (by omega) x.nodes [] l rfl (by simp; omega)
  rw [ref15_Asked, ref15_Asked_body]
  unfold joinK
  dsimp only
  rw [fuel0, askN]
  by_cases h3 : x.kind = 3
  · rw [if_pos (by simpa using h3), put_eq [] x.name (by simp), Option.bind_some, if_pos h3]
    exact key _ (putGo_len _ [] false).1
  · rw [if_neg (by simpa using h3), if_neg h3]
    exact key [] (by simp)
theorem askN_inp {x : Node} (h : deepN 16 x = true) : askN 16 x = inpN x :=
 up_unique (askN_up 16 x) (setN_props _).2 fun s => by rw [askN_mem 16 x h, inpN, (setN_props _).1]
section
variable (x : Node) (g : GoodN x) (hN : lightB x = true → NamOk x)
include g hN
theorem lInputs_eq : program_Inputs x = some (ifOk x [] (inpN x, 0)) := by
 rw [program_Inputs, lcheckN_eq x g hN, Option.bind_some]
 refine ok_of x g hN (fun h hc => ?_) _ rfl
 rw [linputs_eq x g hc, Option.bind_some]
theorem rInputs_eq : ref15_Inputs x = some (ifOk x [] (inpN x, 0)) := by
 rw [ref15_Inputs, rcheckN_eq x g hN, Option.bind_some]
 refine ok_of x g hN (fun h hc => ?_) _ rfl
 rw [asked_eq 16 600 x (by omega) (right_deep h) hc, Option.bind_some, askN_inp (right_deep h)]
end
theorem inpN_len {x : Node} (hc : cntT 16 x ≤ 256) : (inpN x).length ≤ 256 := by
 have h1 := setN_len (namesN 16 x)
 have h2 := namesN_len 16 x
 unfold inpN
 omega
theorem inp_ok (x : Node) : (ifOk x [] (inpN x, 0)).1.length ≤ 256 := by
 unfold ifOk
 by_cases h : checkN x = 0
 · rw [if_neg (by simpa using h)]; exact inpN_len (check_right.1 h).2
 · rw [if_pos h]; simp
theorem eqS_loop (l : List Txt) (hb : l.length ≤ 100000) : ∀ (r pre : List Txt), l = pre ++ r → slices_Equal_stringstring_loop1 l l (some true) (r.length + 1) (pre.length : Int) = some true
 | [], pre, e => by rw [slices_Equal_stringstring_loop1, end_mid e]; rfl
 | y :: r, pre, e => by
  obtain ⟨h1, h2, h3, h4, h5⟩ := step_mid e (by omega)
  rw [List.length_cons, slices_Equal_stringstring_loop1, h1, if_pos rfl, h2, Option.bind_some, Option.bind_some, if_neg (by simp), h3]
  exact eqS_loop l hb r (pre ++ [y]) h4
theorem eqS_refl (l : List Txt) (hb : l.length ≤ 100000) : slices_Equal_stringstring l l = some true := by
 rw [slices_Equal_stringstring, if_neg (by simp), joinK, fuel0]
 exact eqS_loop l hb l [] rfl
theorem law_Checks15 (x y : Node) (gx : GoodN x) (gy : GoodN y) : law15_ProgramChecks x y = some true := by
 obtain ⟨b, h1, h2⟩ := law_few x [] gx (by simp)
 obtain ⟨c, h3, h4⟩ := law_few y [] gy (by simp)
 rw [law15_ProgramChecks, h1, Option.bind_some, awake_true]
 cases b with
 | false => rfl
 | true =>
  rw [if_neg (by simp), h3, Option.bind_some, Option.bind_some]
  cases c with
  | false => rfl
  | true =>
   have hN : lightB x = true → NamOk x := fun q => ((h2 rfl).1 q).1.nam
   have hS : lightB x = true → StrOk x := fun q => ((h2 rfl).1 q).1.str gx
   rw [if_neg (by simp), lFormat_eq x gx hN, rFormat_eq x gx hN, lInputs_eq x gx hN, rInputs_eq x gx hN, lcheckN_eq x gx hN, rcheckN_eq x gx hN, lSame_eq x y gx gy hS, rSame_eq x y gx gy hS]
   simp only [Option.bind_some, beq_self_eq_true, Bool.and_self, Bool.and_true, if_true, eqS_refl _ (Nat.le_trans (inp_ok x) (by decide))]
end Go.Proofs.YtgpfgnpdbmbknaaGreatDoor.W
