/- The plain laws of programs: trees of nodes, their sizes and depths. No program in sight. -/
import Derived.Test.YtgpfgnpdbmbknaaGreatDoorLawL
set_option linter.unusedVariables false
set_option linter.unusedSimpArgs false
set_option maxHeartbeats 2000000
set_option linter.unusedSectionVars false
namespace Go.Proofs.YtgpfgnpdbmbknaaGreatDoor.W
open Go Go.RowKit
/-! ### lists gone through till a step says no -/
def runL {σ X : Type} (step : σ → X → Option (Bool × σ)) : List X → σ → Option (Bool × σ)
 | [], z => some (true, z)
 | a :: l, z => (step z a).bind fun q => if q.1 = true then runL step l q.2 else some (false, q.2)
theorem runL_append {σ X : Type} (step : σ → X → Option (Bool × σ)) (b : List X) : ∀ (a : List X) (z : σ), runL step (a ++ b) z = (runL step a z).bind fun q => if q.1 = true then runL step b q.2 else some (false, q.2)
 | [], z => by simp [runL]
 | x :: a, z => by
  rw [List.cons_append, runL, runL, Option.bind_assoc]
  congr 1
  funext q
  split
  · exact runL_append step b a q.2
  · rename_i h
    rw [Option.bind_some, if_neg (by simp)]
/-! ### bounds of an argument -/
theorem GoodN.sub {x y : Node} (h : GoodN x) (hy : y ∈ x.nodes) : GoodN y := by cases h with | mk _ _ _ _ h4 => exact h4 y hy
theorem GoodN.len {x : Node} (h : GoodN x) : x.nodes.length ≤ maxLen := by cases h with | mk _ _ _ h3 _ => exact h3
theorem GoodN.name {x : Node} (h : GoodN x) : x.name.length ≤ maxLen := by cases h with | mk _ _ h2 _ _ => exact h2
theorem GoodN.strokes {x : Node} (h : GoodN x) : x.step.strokes.length ≤ maxLen := by cases h with | mk _ h1 _ _ _ => exact h1
/-- a place among as many as there can be -/
theorem wrap_max {α : Type} {x : α} {pre r l : List α} (e : l = pre ++ x :: r) (h : l.length ≤ maxLen) : IntKind.wrap .i64 ((pre.length : Int) + 1) = ((pre ++ [x]).length : Int) := by
 rw [maxLen_eq] at h
 have : pre.length + 1 ≤ l.length := by rw [e]; simp
 rw [wrap64 (by omega) (by omega)]
 simp
/-! ### sizes and depths -/
def deepN : Nat → Node → Bool
 | 0, _ => false
 | d + 1, x => x.nodes.all (deepN d)
def cntT : Nat → Node → Nat
 | 0, _ => 1
 | d + 1, x => 1 + (x.nodes.map (cntT d)).sum
theorem cntT_pos : ∀ (d : Nat) (x : Node), 1 ≤ cntT d x
 | 0, x => Nat.le_refl _
 | d + 1, x => by rw [cntT]; omega
theorem deepN_sub {d : Nat} {x y : Node} (h : deepN (d + 1) x = true) (hy : y ∈ x.nodes) : deepN d y = true := List.all_eq_true.1 (by simpa [deepN] using h) y hy
theorem mem_sum {α : Type} {f : α → Nat} {l : List α} {y : α} (hy : y ∈ l) : f y ≤ (l.map f).sum := by
 induction l with
 | nil => cases hy
 | cons a l ih =>
  rw [List.map_cons, List.sum_cons]
  rcases List.mem_cons.1 hy with rfl | hy
  · omega
  · have := ih hy; omega
theorem len_sum {α : Type} {f : α → Nat} {l : List α} (h : ∀ y ∈ l, 1 ≤ f y) : l.length ≤ (l.map f).sum := by
 induction l with
 | nil => simp
 | cons a l ih =>
  rw [List.map_cons, List.sum_cons, List.length_cons]
  have := h a (List.mem_cons_self ..)
  have := ih fun y hy => h y (List.mem_cons_of_mem _ hy)
  omega
theorem cntT_sub {d : Nat} {x y : Node} (hy : y ∈ x.nodes) : cntT d y + 1 ≤ cntT (d + 1) x := by
 rw [cntT]; have := mem_sum (f := cntT d) hy; omega
theorem cntT_len {d : Nat} {x : Node} : x.nodes.length + 1 ≤ cntT (d + 1) x := by
 rw [cntT]; have := len_sum (f := cntT d) (l := x.nodes) fun y _ => cntT_pos d y; omega
theorem sum_congr {α : Type} {f g : α → Nat} {l : List α} (h : ∀ y ∈ l, f y = g y) : (l.map f).sum = (l.map g).sum := by
 rw [List.map_congr_left h]
theorem cntT_deep : ∀ {d e : Nat} {x : Node}, d ≤ e → deepN (d + 1) x = true → cntT e x = cntT d x
 | 0, 0, x, _, _ => rfl
 | 0, e + 1, x, _, h => by
  have hn : x.nodes = [] := by
   cases hq : x.nodes with
   | nil => rfl
   | cons y r => have := deepN_sub h (y := y) (by rw [hq]; exact List.mem_cons_self ..); cases this
  rw [cntT, cntT, hn]
  rfl
 | d + 1, 0, x, he, _ => by omega
 | d + 1, e + 1, x, he, h => by
  rw [cntT, cntT, sum_congr fun y hy => cntT_deep (by omega) (deepN_sub h hy)]
theorem min_sum {α : Type} {f g : α → Nat} {m : Nat} {l : List α} (h : ∀ y ∈ l, min (f y) m = min (g y) m) : min (l.map f).sum m = min (l.map g).sum m := by
 induction l with
 | nil => rfl
 | cons a l ih =>
  have h1 := h a (List.mem_cons_self ..)
  have h2 := ih fun y hy => h y (List.mem_cons_of_mem _ hy)
  rw [List.map_cons, List.map_cons, List.sum_cons, List.sum_cons]
  omega
/-- a count within a bound asks for no more depth than the bound -/
theorem cntT_min : ∀ (d e : Nat) (x : Node), d ≤ e → min (cntT d x) (d + 1) = min (cntT e x) (d + 1)
 | 0, e, x, _ => by have := cntT_pos e x; have := cntT_pos 0 x; omega
 | d + 1, 0, x, he => by omega
 | d + 1, e + 1, x, he => by
  have := min_sum (f := cntT d) (g := cntT e) (m := d + 1) (l := x.nodes) fun y _ => cntT_min d e y (by omega)
  rw [cntT, cntT]
  omega
/-! ### the reference's count and depth -/
theorem rcount_loop (x : Node) (g : x.nodes.length ≤ maxLen) (most : Nat) (hm : most ≤ 100000) (self : Node → Int → Option Int) (hs : ∀ y ∈ x.nodes, ∀ m : Nat, m + 1 ≤ most → self y (m : Int) = some ((min (cntT m y) (m + 1) : Nat) : Int)) (k : Int → Option Int) :
 ∀ (r pre : List Node) (n : Nat), x.nodes = pre ++ r → 1 ≤ n → n ≤ most + 1 → ref15_count_loop1 x (most : Int) self k (r.length + 1) (n : Int) (pre.length : Int) = k ((min (n + (r.map (cntT (most - 1))).sum) (most + 1) : Nat) : Int)
 | [], pre, n, e, h1, h2 => by
  rw [ref15_count_loop1, e, ge_end, Bool.false_and, if_neg (by simp)]
  congr 2
  simp
  omega
 | y :: r, pre, n, e, h1, h2 => by
  have ih := fun n => rcount_loop x g most hm self hs k r (pre ++ [y]) n (by rw [e, mid_cons])
  have hw := wrap_max e g
  rw [List.length_cons, ref15_count_loop1, e, lt_mid, Bool.true_and]
  by_cases hn : n ≤ most
  · have hy : y ∈ x.nodes := by rw [e]; simp
    rw [if_pos (by rw [decide_eq_true_eq]; omega), at?_mid, Option.bind_some, wrap64 (x := (most : Int) - (n : Int)) (by omega) (by omega), show (most : Int) - (n : Int) = ((most - n : Nat) : Int) by omega, hs y hy (most - n) (by omega), Option.bind_some, wrap64 (x := (n : Int) + _) (by omega) (by omega), hw]
    have e2 : (n : Int) + ((min (cntT (most - n) y) (most - n + 1) : Nat) : Int) = ((n + min (cntT (most - n) y) (most - n + 1) : Nat) : Int) := by omega
    rw [e2, ih _ (by omega) (by omega)]
    congr 2
    have := cntT_min (most - n) (most - 1) y (by omega)
    rw [List.map_cons, List.sum_cons]
    omega
  · rw [if_neg (by rw [decide_eq_true_eq]; omega)]
    congr 2
    omega
theorem rcount_eq : ∀ (n most : Nat) (x : Node), most + 1 ≤ n → n ≤ 100000 → GoodN x → ref15_count n x (most : Int) = some ((min (cntT most x) (most + 1) : Nat) : Int)
 | 0, most, x, h, _, g => by omega
 | n + 1, most, x, h, hn, g => by
  rw [ref15_count, ref15_count_body, joinK]
  have := rcount_loop x g.len most (by omega) (ref15_count n) (fun y hy m hm => rcount_eq n m y (by omega) (by omega) (g.sub hy)) (fun i3 => some i3) x.nodes [] 1 rfl (by omega) (by omega)
  rw [show ((1 : Nat) : Int) = 1 from rfl] at this
  refine this.trans ?_
  congr 2
  cases most with
  | zero => rw [cntT]; omega
  | succ m => rw [cntT]; rfl
theorem rdeep_loop (x : Node) (g : x.nodes.length ≤ maxLen) (most : Int) (self : Node → Int → Option Bool) (f : Node → Bool) (hs : ∀ y ∈ x.nodes, self y (IntKind.wrap .i64 (most - 1)) = some (f y)) :
 ∀ (r pre : List Node), x.nodes = pre ++ r → ref15_deep_loop1 x most self (some true) (r.length + 1) (pre.length : Int) = some (r.all f)
 | [], pre, e => by rw [ref15_deep_loop1, e, ge_end, if_neg (by simp)]; rfl
 | y :: r, pre, e => by
  have ih := rdeep_loop x g most self f hs r (pre ++ [y]) (by rw [e, mid_cons])
  have hw := wrap_max e g
  have hy : y ∈ x.nodes := by rw [e]; simp
  rw [List.length_cons, ref15_deep_loop1, e, lt_mid, if_pos rfl, at?_mid, Option.bind_some, hs y hy, Option.bind_some, hw, ih, List.all_cons]
  cases f y <;> simp
theorem rdeep_eq : ∀ (n d : Nat) (x : Node), d + 1 ≤ n → n ≤ 100000 → GoodN x → ref15_deep n x (d : Int) = some (deepN d x)
 | 0, d, x, h, _, g => by omega
 | n + 1, 0, x, h, hn, g => by rw [ref15_deep, ref15_deep_body, if_pos (by decide)]; rfl
 | n + 1, d + 1, x, h, hn, g => by
  rw [ref15_deep, ref15_deep_body, if_neg (by rw [decide_eq_true_eq]; omega)]
  by_cases hd : d = 0
  · subst hd
    rw [if_pos (by rfl), deepN]
    cases hq : x.nodes with
    | nil => rfl
    | cons y r => simp [deepN]; omega
  · rw [if_neg (by simp; omega), joinK, fuel0]
    refine rdeep_loop x g.len _ _ (deepN d) (fun y hy => ?_) x.nodes [] rfl
    rw [wrap64 (by omega) (by omega), show ((d + 1 : Nat) : Int) - 1 = (d : Int) by omega]
    exact rdeep_eq n d y (by omega) (by omega) (g.sub hy)
/-- not too many nodes, not too deep -/
def lightB (x : Node) : Bool := decide (cntT 16 x ≤ 256) && deepN 16 x
theorem light_iff {x : Node} : lightB x = true ↔ cntT 16 x ≤ 256 ∧ deepN 16 x = true := by
 rw [lightB, Bool.and_eq_true, decide_eq_true_eq]
theorem rlight_eq (x : Node) (g : GoodN x) : ref15_Light x = some (lightB x) := by
 rw [ref15_Light, show (256 : Int) = ((256 : Nat) : Int) from rfl, rcount_eq 600 256 x (by omega) (by omega) g, Option.bind_some, show (16 : Int) = ((16 : Nat) : Int) from rfl, rdeep_eq 600 16 x (by omega) (by omega) g, Option.bind_some]
 rw [lightB]
 cases hd : deepN 16 x with
 | false =>
  rw [Bool.and_false]
  split <;> rfl
 | true =>
  have := cntT_deep (d := 15) (e := 256) (x := x) (by omega) hd
  have := cntT_deep (d := 15) (e := 16) (x := x) (by omega) hd
  rw [Bool.and_true]
  by_cases hc : cntT 16 x ≤ 256
  · rw [if_pos (by rw [decide_eq_true_eq]; omega), decide_eq_true hc]; rfl
  · rw [if_neg (by rw [decide_eq_true_eq]; omega), decide_eq_false hc]; rfl
/-! ### the program's walk in preorder -/
def preL : Nat → Int → Node → List (Int × Node)
 | 0, k, x => [(k, x)]
 | m + 1, k, x => (k, x) :: x.nodes.flatMap (preL m (k + 1))
section
variable {σ : Type} (step : σ → (Int × Node) → Option (Bool × σ))
theorem pre_loop0 (x : Node) (g : x.nodes.length ≤ maxLen) (k : Int) (hk : ¬ k ≤ 16) (self : Node → Int → σ → Option (Bool × σ)) (K : σ → Option (Bool × σ)) :
 ∀ (r pre : List Node) (z : σ), x.nodes = pre ++ r → program_preorder_1_1_loop1 x k self K (r.length + 1) z (pre.length : Int) = K z
 | [], pre, z, e => by rw [program_preorder_1_1_loop1, e, ge_end, if_neg (by simp)]
 | y :: r, pre, z, e => by
  have ih := pre_loop0 x g k hk self K r (pre ++ [y]) z (by rw [e, mid_cons])
  have hw := wrap_max e g
  rw [List.length_cons, program_preorder_1_1_loop1, e, lt_mid, if_pos rfl, at?_mid, Option.bind_some, if_neg (by rw [decide_eq_true_eq]; exact hk), hw, ih]
theorem pre_loop (x : Node) (g : x.nodes.length ≤ maxLen) (k : Int) (h0 : 0 ≤ k) (hk : k ≤ 16) (self : Node → Int → σ → Option (Bool × σ)) (f : Node → List (Int × Node)) (hs : ∀ y ∈ x.nodes, ∀ z, self y (k + 1) z = runL step (f y) z) :
 ∀ (r pre : List Node) (z : σ), x.nodes = pre ++ r → program_preorder_1_1_loop1 x k self (fun z => some (true, z)) (r.length + 1) z (pre.length : Int) = runL step (r.flatMap f) z
 | [], pre, z, e => by rw [program_preorder_1_1_loop1, e, ge_end, if_neg (by simp)]; rfl
 | y :: r, pre, z, e => by
  have ih := fun z => pre_loop x g k h0 hk self f hs r (pre ++ [y]) z (by rw [e, mid_cons])
  have hw := wrap_max e g
  have hy : y ∈ x.nodes := by rw [e]; simp
  rw [List.length_cons, program_preorder_1_1_loop1, e, lt_mid, if_pos rfl, at?_mid, Option.bind_some, if_pos (by rw [decide_eq_true_eq]; exact hk), hw, wrap64 (x := k + 1) (by omega) (by omega), hs y hy, List.flatMap_cons, runL_append]
  congr 1
  funext q
  split
  · exact ih q.2
  · rfl
theorem pre_eq : ∀ (m n : Nat) (k : Int) (x : Node) (z : σ), k + m = 17 → 0 ≤ k → m < n → GoodN x → program_preorder_1_1 step n x k z = runL step (preL m k x) z
 | m, 0, k, x, z, _, _, h, _ => by omega
 | 0, n + 1, k, x, z, hk, h0, _, g => by
  rw [program_preorder_1_1, program_preorder_1_1_body, preL, runL]
  congr 1
  funext q
  split
  · rw [joinK]
    exact pre_loop0 x g.len k (by omega) _ _ x.nodes [] q.2 rfl
  · rfl
 | m + 1, n + 1, k, x, z, hk, h0, h, g => by
  rw [program_preorder_1_1, program_preorder_1_1_body, preL, runL]
  congr 1
  funext q
  split
  · rw [joinK]
    exact pre_loop step x g.len k h0 (by omega) _ (preL m (k + 1)) (fun y hy z => pre_eq m n (k + 1) y z (by omega) (by omega) (by omega) (g.sub hy)) x.nodes [] q.2 rfl
  · rfl
theorem preorder_eq (x : Node) (z : σ) (g : GoodN x) : program_preorder_1 step x z = runL step (preL 16 1 x) z := by
 rw [program_preorder_1, pre_eq step 16 600 1 x z (by omega) (by omega) (by omega) g]
 cases runL step (preL 16 1 x) z with
 | none => rfl
 | some q =>
  obtain ⟨b, s⟩ := q
  cases b <;> rfl
end
theorem light_run : ∀ (L : List (Int × Node)) (c : Nat), c ≤ 256 → ∃ q, runL program_light_rng1 L (c : Int) = some q ∧ (q.1 = true ↔ c + L.length ≤ 256 ∧ ∀ a ∈ L, a.1 ≤ 16)
 | [], c, h => ⟨_, rfl, by simp [h]⟩
 | a :: L, c, h => by
  rw [runL, program_light_rng1, wrap64 (x := (c : Int) + 1) (by omega) (by omega)]
  by_cases h1 : c + 1 ≤ 256 ∧ a.1 ≤ 16
  · obtain ⟨q, h2, h3⟩ := light_run L (c + 1) h1.1
    refine ⟨q, ?_, ?_⟩
    · rw [if_neg (by simp; omega), Option.bind_some, if_pos rfl]
      exact h2
    · rw [h3, List.length_cons]
      simp only [List.mem_cons, forall_eq_or_imp]
      exact ⟨fun q => ⟨by omega, h1.2, q.2⟩, fun q => ⟨by omega, q.2.2⟩⟩
  · refine ⟨_, by rw [if_pos (by simp; omega), Option.bind_some, if_neg (by simp)], ?_⟩
    rw [List.length_cons]
    simp only [List.mem_cons, forall_eq_or_imp, Bool.false_eq_true, false_iff]
    rintro ⟨q1, q2, _⟩
    exact h1 ⟨by omega, q2⟩
theorem preL_deep : ∀ (m : Nat) (k : Int) (x : Node), k + m = 17 → ((∀ a ∈ preL m k x, a.1 ≤ 16) ↔ deepN m x = true)
 | 0, k, x, h => by
  rw [preL, deepN]
  simp
  omega
 | m + 1, k, x, h => by
  rw [preL, deepN, List.all_eq_true]
  simp only [List.mem_cons, List.mem_flatMap, forall_eq_or_imp]
  constructor
  · rintro ⟨_, h2⟩ y hy
    exact (preL_deep m (k + 1) y (by omega)).1 fun a ha => h2 a ⟨y, hy, ha⟩
  · intro h2
    refine ⟨by show k ≤ 16; omega, ?_⟩
    rintro a ⟨y, hy, ha⟩
    exact (preL_deep m (k + 1) y (by omega)).2 (h2 y hy) a ha
theorem preL_len : ∀ (m : Nat) (k : Int) (x : Node), (preL m k x).length = cntT m x
 | 0, k, x => rfl
 | m + 1, k, x => by
  rw [preL, cntT, List.length_cons, List.length_flatMap, sum_congr fun y _ => preL_len m (k + 1) y]
  omega
theorem llight_eq (x : Node) (g : GoodN x) : program_light x = some (lightB x) := by
 obtain ⟨q, h1, h2⟩ := light_run (preL 16 1 x) 0 (by omega)
 rw [program_light, preorder_eq _ x _ g, show (0 : Int) = ((0 : Nat) : Int) from rfl, h1, Option.bind_some]
 rw [preL_len, preL_deep 16 1 x (by omega), Nat.zero_add] at h2
 have h3 : q.1 = lightB x := by rw [Bool.eq_iff_iff, h2, light_iff]
 rw [h3]
 cases lightB x <;> rfl
/-! ### a node alone -/
def noStep (x : Step) : Bool := decide (x.strokes = []) && x.wait == 0
def shapeB (x : Node) : Bool :=
 if x.kind = 0 then decide (x.nodes = []) && x.count == 0 && x.name == []
 else if x.kind = 1 then decide (x.nodes ≠ []) && noStep x.step && x.count == 0 && x.name == []
 else if x.kind = 2 then x.nodes.length == 1 && noStep x.step && x.name == []
 else x.nodes.length == 2 && noStep x.step && x.count == 0
def nodeE (x : Node) : Int :=
 if x.kind < 0 ∨ x.kind > 3 then 1 else if shapeB x = false then 3
 else if x.kind = 0 then chk x.step else if x.kind = 2 then (if x.count < 1 ∨ x.count > 64 then 2 else 0) else if x.kind = 3 then word x.name else 0
theorem len0 {α : Type} {l : List α} : ((l.length : Int) == 0) = decide (l = []) := by
 cases l with
 | nil => rfl
 | cons a l => simp; omega
theorem lenP {α : Type} {l : List α} : decide ((l.length : Int) > 0) = decide (l ≠ []) := by
 cases l with
 | nil => rfl
 | cons a l => simp
theorem lenN {α : Type} {l : List α} (k : Nat) : ((l.length : Int) == (k : Int)) = (l.length == k) := by
 rw [Bool.eq_iff_iff, beq_iff_eq, beq_iff_eq]; omega
theorem lenN' {α : Type} {l : List α} (k : Nat) : ((l.length : Int) != (k : Int)) = (l.length != k) := by
 rw [bne, bne, lenN]
theorem lalone_eq (x : Node) (h : x.name.length ≤ 100000) : program_alone x = some (nodeE x) := by
 obtain ⟨k, s, c, n, l⟩ := x
 dsimp only at h
 unfold program_alone nodeE joinK shapeB noStep
 dsimp only
 rw [lchk_eq, lword_eq _ (by omega), len0, lenP, lenP, show (1 : Int) = ((1 : Nat) : Int) from rfl, show (2 : Int) = ((2 : Nat) : Int) from rfl, lenN', lenN']
 simp only [Option.bind_some]
 by_cases h0 : k = 0
 · subst h0
   by_cases a : l = [] <;> by_cases b : c = 0 <;> by_cases d : n = [] <;> simp [a, b, d]
 · by_cases h1 : k = 1
   · subst h1
     by_cases a : l = [] <;> by_cases b : c = 0 <;> by_cases d : n = [] <;> by_cases e : s.strokes = [] <;> by_cases f : s.wait = 0 <;> simp [a, b, d, e, f]
   · by_cases h2 : k = 2
     · subst h2
       by_cases q : c < 1 ∨ 64 < c <;> by_cases a : l.length = 1 <;> by_cases d : n = [] <;> by_cases e : s.strokes = [] <;> by_cases f : s.wait = 0 <;> simp [a, d, e, f, q]
     · by_cases h3 : k = 3
       · subst h3
         by_cases a : l.length = 2 <;> by_cases b : c = 0 <;> by_cases e : s.strokes = [] <;> by_cases f : s.wait = 0 <;> simp [a, b, e, f]
       · have hk : k < 0 ∨ k > 3 := by omega
         rw [if_pos hk]
         simp [h0, h1, h2, h3]
theorem ralone_eq (x : Node) (h : x.name.length ≤ 100000) : ref15_node x = some (nodeE x) := by
 have hs : ref15_shape x = some (shapeB x) := by
  unfold ref15_shape shapeB noStep
  rw [len0, lenP, len0, show (1 : Int) = ((1 : Nat) : Int) from rfl, show (2 : Int) = ((2 : Nat) : Int) from rfl, lenN, lenN]
  simp only [beq_iff_eq]
  repeat' split
  all_goals rfl
 unfold ref15_node nodeE joinK
 dsimp only
 rw [hs, rchk_eq, rword_eq _ (by omega)]
 simp only [Option.bind_some, beq_iff_eq, Bool.or_eq_true, decide_eq_true_eq, Bool.not_eq_true']
 repeat' split
 all_goals first | rfl | (exfalso; omega)
/-! ### all of them -/
def firstE {α : Type} (f : α → Int) : List α → Int
 | [] => 0
 | a :: l => if f a ≠ 0 then f a else firstE f l
theorem firstE_zero {α : Type} {f : α → Int} : ∀ {l : List α}, firstE f l = 0 ↔ ∀ a ∈ l, f a = 0
 | [] => by simp [firstE]
 | a :: l => by
  rw [firstE]
  split
  · rename_i h
    constructor
    · intro q; exact absurd q h
    · intro q; exact q a (List.mem_cons_self ..)
  · rename_i h
    rw [firstE_zero]
    simp only [List.mem_cons, forall_eq_or_imp]
    exact ⟨fun q => ⟨Decidable.not_not.1 h, q⟩, fun q => q.2⟩
theorem firstE_append {α : Type} (f : α → Int) (b : List α) : ∀ a : List α, firstE f (a ++ b) = if firstE f a ≠ 0 then firstE f a else firstE f b
 | [] => by simp [firstE]
 | x :: a => by
  rw [List.cons_append, firstE, firstE, firstE_append f b a]
  by_cases h : f x = 0
  · simp only [h, ne_eq, not_true_eq_false, if_false]
  · simp only [h, ne_eq, not_false_eq_true, if_true]
theorem firstE_flatMap {α β : Type} (f : β → Int) (g : α → List β) : ∀ l : List α, firstE f (l.flatMap g) = firstE (fun y => firstE f (g y)) l
 | [] => rfl
 | x :: l => by rw [List.flatMap_cons, firstE_append, firstE, firstE_flatMap f g l]
theorem firstE_congr {α : Type} {f g : α → Int} : ∀ {l : List α}, (∀ a ∈ l, f a = g a) → firstE f l = firstE g l
 | [], _ => rfl
 | a :: l, h => by rw [firstE, firstE, h a (List.mem_cons_self ..), firstE_congr fun y hy => h y (List.mem_cons_of_mem _ hy)]
def nodesE : Nat → Node → Int
 | 0, x => nodeE x
 | d + 1, x => if nodeE x ≠ 0 then nodeE x else firstE (nodesE d) x.nodes
def checkN (x : Node) : Int := if lightB x = false then 5 else nodesE 16 x
/-- names are not too long -/
inductive NamOk : Node → Prop
 | mk (x : Node) (h : x.name.length ≤ 100000) (k : ∀ y ∈ x.nodes, NamOk y) : NamOk x
theorem NamOk.here {x : Node} (h : NamOk x) : x.name.length ≤ 100000 := by cases h with | mk _ h _ => exact h
theorem NamOk.sub {x y : Node} (h : NamOk x) (hy : y ∈ x.nodes) : NamOk y := by cases h with | mk _ _ k => exact k y hy
theorem preL_nam : ∀ (m : Nat) (k : Int) (x : Node), NamOk x → ∀ a ∈ preL m k x, a.2.name.length ≤ 100000
 | 0, k, x, h, a, ha => by
  rw [preL, List.mem_singleton] at ha
  rw [ha]
  exact h.here
 | m + 1, k, x, h, a, ha => by
  rw [preL] at ha
  rcases List.mem_cons.1 ha with rfl | ha
  · exact h.here
  · obtain ⟨y, hy, ha⟩ := List.mem_flatMap.1 ha
    exact preL_nam m (k + 1) y (h.sub hy) a ha
theorem check_run : ∀ (L : List (Int × Node)) (q : Int), (∀ a ∈ L, a.2.name.length ≤ 100000) → runL program_Check_rng1 L q = some (if firstE (fun a => nodeE a.2) L = 0 then (true, q) else (false, firstE (fun a => nodeE a.2) L))
 | [], q, h => by simp [runL, firstE]
 | a :: L, q, h => by
  rw [runL, program_Check_rng1, lalone_eq _ (h a (List.mem_cons_self ..)), Option.bind_some, firstE]
  by_cases h0 : nodeE a.2 = 0
  · have e : (if nodeE a.2 ≠ 0 then nodeE a.2 else firstE (fun a : Int × Node => nodeE a.2) L) = firstE (fun a : Int × Node => nodeE a.2) L := if_neg (by simpa using h0)
    rw [e, if_neg (by simpa using h0), Option.bind_some, if_pos rfl]
    exact check_run L q fun y hy => h y (List.mem_cons_of_mem _ hy)
  · have e : (if nodeE a.2 ≠ 0 then nodeE a.2 else firstE (fun a : Int × Node => nodeE a.2) L) = nodeE a.2 := if_pos h0
    rw [e, if_pos (by simpa using h0), Option.bind_some, if_neg (by simp), if_neg h0]
theorem nodesE_pre : ∀ (m : Nat) (k : Int) (x : Node), firstE (fun a : Int × Node => nodeE a.2) (preL m k x) = nodesE m x
 | 0, k, x => by
  rw [preL, nodesE, firstE, firstE]
  split
  · rfl
  · rename_i h; exact (Decidable.not_not.1 h).symm
 | m + 1, k, x => by rw [preL, nodesE, firstE, firstE_flatMap, firstE_congr fun y _ => nodesE_pre m (k + 1) y]
theorem lcheckN_eq (x : Node) (g : GoodN x) (h : lightB x = true → NamOk x) : program_Check x = some (checkN x) := by
 rw [program_Check, llight_eq x g, Option.bind_some, checkN]
 cases hl : lightB x with
 | false => rfl
 | true =>
  rw [if_neg (by simp), preorder_eq _ x _ g, check_run _ _ (preL_nam 16 1 x (h hl)), nodesE_pre, Option.bind_some]
  by_cases h0 : nodesE 16 x = 0 <;> simp [h0]
theorem rnodes_loop (x : Node) (g : x.nodes.length ≤ maxLen) (self : Node → Option Int) (f : Node → Int) (hs : ∀ y ∈ x.nodes, self y = some (f y)) :
 ∀ (r pre : List Node), x.nodes = pre ++ r → ref15_nodes_loop1 x self (some 0) (r.length + 1) (pre.length : Int) = some (firstE f r)
 | [], pre, e => by rw [ref15_nodes_loop1, e, ge_end, if_neg (by simp)]; rfl
 | y :: r, pre, e => by
  have ih := rnodes_loop x g self f hs r (pre ++ [y]) (by rw [e, mid_cons])
  have hw := wrap_max e g
  have hy : y ∈ x.nodes := by rw [e]; simp
  rw [List.length_cons, ref15_nodes_loop1, e, lt_mid, if_pos rfl, at?_mid, Option.bind_some, hs y hy, Option.bind_some, hw, ih, firstE]
  by_cases h0 : f y = 0
  · rw [if_neg (by simpa using h0), if_neg (by simpa using h0)]
  · rw [if_pos (by simpa using h0), if_pos h0]
theorem rnodes_eq : ∀ (n d : Nat) (x : Node), d ≤ n → deepN d x = true → GoodN x → NamOk x → ref15_nodes n x = some (nodesE d x)
 | n, 0, x, _, h, _, _ => by cases h
 | 0, d + 1, x, hd, _, _, _ => by omega
 | n + 1, d + 1, x, hd, h, g, k => by
  rw [ref15_nodes, ref15_nodes_body, ralone_eq _ k.here, Option.bind_some, nodesE]
  by_cases h0 : nodeE x = 0
  · rw [if_neg (by simpa using h0), joinK, fuel0, if_neg (by simpa using h0)]
    exact rnodes_loop x g.len _ (nodesE d) (fun y hy => rnodes_eq n d y (by omega) (deepN_sub h hy) (g.sub hy) (k.sub hy)) x.nodes [] rfl
  · rw [if_pos (by simpa using h0), if_pos h0]
theorem rcheckN_eq (x : Node) (g : GoodN x) (h : lightB x = true → NamOk x) : ref15_Check x = some (checkN x) := by
 rw [ref15_Check, rlight_eq x g, Option.bind_some, checkN]
 cases hl : lightB x with
 | false => rfl
 | true =>
  rw [if_neg (by simp), rnodes_eq 600 16 x (by omega) (light_iff.1 hl).2 g (h hl), Option.bind_some]
  simp
/-! ### right programs -/
inductive Right : Nat → Node → Prop
 | step (d : Nat) (s : Step) (h : chk s = 0) : Right (d + 1) ⟨0, s, 0, [], []⟩
 | list (d : Nat) (l : List Node) (h : l ≠ []) (hl : l.length ≤ 256) (k : ∀ y ∈ l, Right d y) : Right (d + 1) ⟨1, ⟨[], 0⟩, 0, [], l⟩
 | rep (d : Nat) (c : Int) (y : Node) (h0 : 1 ≤ c) (h1 : c ≤ 64) (h : Right d y) : Right (d + 1) ⟨2, ⟨[], 0⟩, c, [], [y]⟩
 | cho (d : Nat) (n : List UInt8) (a b : Node) (h : word n = 0) (ha : Right d a) (hb : Right d b) : Right (d + 1) ⟨3, ⟨[], 0⟩, 0, n, [a, b]⟩
theorem noStep_eq {s : Step} (h : noStep s = true) : s = ⟨[], 0⟩ := by
 obtain ⟨a, b⟩ := s
 simp [noStep] at h
 rw [h.1, h.2]
theorem right_of : ∀ (d : Nat) (x : Node), deepN d x = true → cntT d x ≤ 256 → nodesE d x = 0 → Right d x
 | 0, x, h, _, _ => by cases h
 | d + 1, x, h, hc, he => by
  rw [nodesE] at he
  have h0 : nodeE x = 0 := by
   apply Classical.byContradiction
   intro q
   rw [if_pos q] at he
   exact q he
  rw [if_neg (by simpa using h0), firstE_zero] at he
  have hsub : ∀ y ∈ x.nodes, Right d y := fun y hy => right_of d y (deepN_sub h hy) (by have := cntT_sub (d := d) hy; omega) (he y hy)
  have hlen := cntT_len (d := d) (x := x)
  obtain ⟨k, s, c, n, l⟩ := x
  unfold nodeE at h0
  dsimp only at h0 hsub hlen
  split at h0
  · cases h0
  · rename_i hk
    split at h0
    · cases h0
    · rename_i hs
      rw [Bool.not_eq_false] at hs
      unfold shapeB at hs
      dsimp only at hs
      split at h0
      · rename_i e
        rw [if_pos e] at hs
        simp at hs
        obtain ⟨⟨rfl, rfl⟩, rfl⟩ := hs
        rw [e]
        exact .step d s h0
      · rename_i e0
        rw [if_neg e0] at hs
        split at h0
        · rename_i e
          rw [if_neg (by omega), if_pos e] at hs
          simp at hs
          obtain ⟨⟨h1, h2⟩, rfl⟩ := hs
          obtain rfl := noStep_eq h2
          split at h0
          · cases h0
          · rename_i hcc
            match l, h1 with
            | [y], _ =>
             rw [e]
             exact .rep d c y (by omega) (by omega) (hsub y (List.mem_cons_self ..))
        · rename_i e2
          split at h0
          · rename_i e
            rw [if_neg (by omega), if_neg e2] at hs
            simp at hs
            obtain ⟨⟨h1, h2⟩, rfl⟩ := hs
            obtain rfl := noStep_eq h2
            match l, h1 with
            | [a, b], _ =>
             rw [e]
             exact .cho d n a b h0 (hsub a (by simp)) (hsub b (by simp))
          · rename_i e3
            have e : k = 1 := by omega
            rw [if_pos e] at hs
            simp at hs
            obtain ⟨⟨⟨h1, h2⟩, rfl⟩, rfl⟩ := hs
            obtain rfl := noStep_eq h2
            rw [e]
            exact .list d l h1 (by omega) hsub
theorem right_deep {d : Nat} {x : Node} (h : Right d x) : deepN d x = true := by
 induction h with
 | step d s h => rfl
 | list d l h hl k ih => rw [deepN, List.all_eq_true]; exact ih
 | rep d c y h0 h1 h ih => rw [deepN, List.all_eq_true]; intro z hz; rw [List.mem_singleton.1 hz]; exact ih
 | cho d n a b h ha hb iha ihb =>
  rw [deepN, List.all_eq_true]
  intro z hz
  rcases List.mem_cons.1 hz with rfl | hz
  · exact iha
  · rw [List.mem_singleton.1 hz]; exact ihb
theorem right_E {d : Nat} {x : Node} (h : Right d x) : nodesE d x = 0 := by
 have key : ∀ {d : Nat} {x : Node}, nodeE x = 0 → (∀ y ∈ x.nodes, nodesE d y = 0) → nodesE (d + 1) x = 0 := fun h0 k => by
  rw [nodesE, if_neg (by simpa using h0)]
  exact firstE_zero.2 k
 induction h with
 | step d s h => exact key (by simpa [nodeE, shapeB] using h) (fun y hy => by cases hy)
 | list d l h hl k ih => exact key (by simp [nodeE, shapeB, h, noStep]) ih
 | rep d c y h0 h1 h ih => exact key (by simp [nodeE, shapeB, noStep]; omega) (fun z hz => by rw [List.mem_singleton.1 hz]; exact ih)
 | cho d n a b h ha hb iha ihb => exact key (by simp [nodeE, shapeB, noStep, h]) (fun z hz => by
  rcases List.mem_cons.1 hz with rfl | hz
  · exact iha
  · rw [List.mem_singleton.1 hz]; exact ihb)
theorem word_len {s : List UInt8} (h : word s = 0) : s.length ≤ 24 := by
 unfold word at h
 repeat' split at h
 all_goals first | (cases h; done) | omega
theorem right_good {d : Nat} {x : Node} (h : Right d x) : GoodN x := by
 induction h with
 | step d s h => exact .mk _ (by have := (chk_zero.1 h).few; show s.strokes.length ≤ maxLen; rw [maxLen_eq]; omega) (by simp) (by simp) (fun y hy => by cases hy)
 | list d l h hl k ih => exact .mk _ (by simp) (by simp) (by show l.length ≤ maxLen; rw [maxLen_eq]; omega) ih
 | rep d c y h0 h1 h ih => exact .mk _ (by simp) (by simp) (by simp [maxLen_eq]) (fun z hz => by rw [List.mem_singleton.1 hz]; exact ih)
 | cho d n a b h ha hb iha ihb => exact .mk _ (by simp) (by have := word_len h; show n.length ≤ maxLen; rw [maxLen_eq]; omega) (by simp [maxLen_eq]) (fun z hz => by
  rcases List.mem_cons.1 hz with rfl | hz
  · exact iha
  · rw [List.mem_singleton.1 hz]; exact ihb)
theorem check_right {x : Node} : checkN x = 0 ↔ Right 16 x ∧ cntT 16 x ≤ 256 := by
 unfold checkN
 constructor
 · intro h
   split at h
   · cases h
   · rename_i hl
     obtain ⟨a, b⟩ := light_iff.1 (by simpa using hl)
     exact ⟨right_of 16 x b a h, a⟩
 · rintro ⟨a, b⟩
   rw [if_neg (by rw [light_iff.2 ⟨b, right_deep a⟩]; simp)]
   exact right_E a
/-! ### few -/
inductive ShortN : Node → Prop
 | mk (x : Node) (h1 : x.step.strokes.length ≤ 40) (h2 : x.name.length ≤ 60) (k : ∀ y ∈ x.nodes, ShortN y) : ShortN x
theorem ShortN.here {x : Node} (h : ShortN x) : x.step.strokes.length ≤ 40 ∧ x.name.length ≤ 60 := by cases h with | mk _ a b _ => exact ⟨a, b⟩
theorem ShortN.sub {x y : Node} (h : ShortN x) (hy : y ∈ x.nodes) : ShortN y := by cases h with | mk _ _ _ k => exact k y hy
theorem ShortN.nam {x : Node} (h : ShortN x) : NamOk x := by
 induction h with
 | mk x h1 h2 k ih => exact .mk x (by omega) ih
/-! ### motions -/
def mot : Nat → Node → Motion
 | 0, _ => .list []
 | d + 1, x => if x.kind = 0 then .single x.step else if x.kind = 1 then .list (x.nodes.map (mot d)) else if x.kind = 2 then .repeat_ x.count (mot d (x.nodes.headD x)) else .choice x.name (mot d (x.nodes.headD x)) (mot d ((x.nodes.drop 1).headD x))
section
variable {d : Nat} {s : Step} {l : List Node} {c : Int} {y a b : Node} {n : List UInt8}
end
/-! ### which are chosen -/
/-- the steps that a program does for some inputs -/
def stepsN (on : List (List UInt8)) : Nat → Node → List Step
 | 0, _ => []
 | d + 1, x => if x.kind = 0 then [x.step] else if x.kind = 1 then x.nodes.flatMap (stepsN on d) else if x.kind = 2 then (List.replicate x.count.toNat (stepsN on d (x.nodes.headD x))).flatten
  else if x.name ∈ on then stepsN on d (x.nodes.headD x) else stepsN on d ((x.nodes.drop 1).headD x)
section
variable {on : List (List UInt8)} {d : Nat} {s : Step} {l : List Node} {c : Int} {y a b : Node} {n : List UInt8}
end
/-! ### the length -/
section
variable {σ : Type} (step : σ → Step → Option (Bool × σ)) (on : List (List UInt8)) (self : (σ → Step → Option (Bool × σ)) → Motion → List (List UInt8) → σ → Option (Bool × σ))
end
/-! ### unfolded -/
/-! ### the reference -/
theorem awake_true : law15_awake = some true := by kernel_rfl
/-! ### the functions -/
section
variable (x : Node) (g : GoodN x) (hN : lightB x = true → NamOk x) (on : List (List UInt8)) (hon : on.length ≤ 1000000)
include g hN
end
/-! ### equal programs -/
def all2 {α : Type} (f : α → α → Bool) : List α → List α → Bool
 | [], [] => true
 | x :: r, y :: q => f x y && all2 f r q
 | _, _ => false
def eqN : Nat → Node → Node → Bool
 | 0, _, _ => false
 | d + 1, a, b => a.kind == b.kind && sameB a.step b.step && a.count == b.count && a.name == b.name && all2 (eqN d) a.nodes b.nodes
inductive StrOk : Node → Prop
 | mk (x : Node) (h : x.step.strokes.length ≤ 100000) (h2 : x.nodes.length ≤ maxLen) (k : ∀ y ∈ x.nodes, StrOk y) : StrOk x
theorem StrOk.here {x : Node} (h : StrOk x) : x.step.strokes.length ≤ 100000 ∧ x.nodes.length ≤ maxLen := by cases h with | mk _ a b _ => exact ⟨a, b⟩
theorem StrOk.sub {x y : Node} (h : StrOk x) (hy : y ∈ x.nodes) : StrOk y := by cases h with | mk _ _ _ k => exact k y hy
theorem right_str {d : Nat} {x : Node} (h : Right d x) : StrOk x := by
 induction h with
 | step d s h => exact .mk _ (by have := (chk_zero.1 h).few; show s.strokes.length ≤ 100000; omega) (by simp) (fun y hy => by cases hy)
 | list d l h hl k ih => exact .mk _ (by simp) (by show l.length ≤ maxLen; rw [maxLen_eq]; omega) ih
 | rep d c y h0 h1 h ih => exact .mk _ (by simp) (by simp [maxLen_eq]) (fun z hz => by rw [List.mem_singleton.1 hz]; exact ih)
 | cho d n a b h ha hb iha ihb => exact .mk _ (by simp) (by simp [maxLen_eq]) (fun z hz => by
  rcases List.mem_cons.1 hz with rfl | hz
  · exact iha
  · rw [List.mem_singleton.1 hz]; exact ihb)
theorem all2_len {α : Type} {f : α → α → Bool} : ∀ {l q : List α}, l.length ≠ q.length → all2 f l q = false
 | [], [], h => absurd rfl h
 | [], _ :: _, _ => rfl
 | _ :: _, [], _ => rfl
 | x :: l, y :: q, h => by rw [all2, all2_len (fun e => h (by simp [e])), Bool.and_false]
theorem rquery_loop (a b : Node) (hb : a.nodes.length ≤ maxLen) (self : Node → Node → Option Bool) (f : Node → Node → Bool) (hs : ∀ x ∈ a.nodes, ∀ y, self x y = some (f x y)) :
 ∀ (r q pre pre2 : List Node), a.nodes = pre ++ r → b.nodes = pre2 ++ q → pre.length = pre2.length → r.length = q.length → ref15_equal_loop1 a b self (some true) (r.length + 1) (pre.length : Int) = some (all2 f r q)
 | [], [], pre, pre2, e, _, _, _ => by
  rw [ref15_equal_loop1, end_mid e]
  rfl
 | x :: r, y :: q, pre, pre2, e, e2, hp, hl => by
  have ih := rquery_loop a b hb self f hs r q (pre ++ [x]) (pre2 ++ [y]) (by rw [e, mid_cons]) (by rw [e2, mid_cons]) (by simp [hp]) (by simpa using hl)
  have hw := wrap_max e hb
  have a1 : at? a.nodes (pre.length : Int) = some x := by rw [e]; exact at?_mid
  have a2 : at? b.nodes (pre.length : Int) = some y := by rw [e2, hp]; exact at?_mid
  rw [List.length_cons, ref15_equal_loop1, show decide ((pre.length : Int) < (a.nodes.length : Int)) = true by rw [e]; exact lt_mid, if_pos rfl, a1, Option.bind_some, a2, Option.bind_some, hs x (by rw [e]; simp), Option.bind_some, hw, ih, all2]
  cases f x y <;> simp
 | [], _ :: _, _, _, _, _, _, h => by simp at h
 | _ :: _, [], _, _, _, _, _, h => by simp at h
theorem requal_eq : ∀ (d n : Nat) (a b : Node), d ≤ n → deepN d a = true → StrOk a → ref15_equal n a b = some (eqN d a b)
 | 0, n, a, b, _, h, _ => by cases h
 | d + 1, 0, a, b, hn, _, _ => by omega
 | d + 1, n + 1, a, b, hn, h, k => by
  rw [ref15_equal, ref15_equal_body, rsame_eq _ _ k.here.1, eqN, joinK, fuel0]
  by_cases hl : a.nodes.length = b.nodes.length
  · have hE := rquery_loop a b k.here.2 _ (eqN d) (fun x hx y => requal_eq d n x y (by omega) (deepN_sub h hx) (k.sub hx)) a.nodes b.nodes [] [] rfl rfl rfl hl
    have h0 : ((([] : List Node).length : Nat) : Int) = 0 := rfl
    rw [h0] at hE
    have hl' : ((a.nodes.length : Int) != (b.nodes.length : Int)) = false := by simp; omega
    rw [hE, hl', bne, bne]
    cases a.kind == b.kind <;> cases sameB a.step b.step <;> cases a.count == b.count <;> cases a.name == b.name <;> simp
  · have hl' : ((a.nodes.length : Int) != (b.nodes.length : Int)) = true := by simp; omega
    rw [hl', Bool.or_true, if_pos rfl, Option.bind_some, if_pos rfl, all2_len hl, Bool.and_false]
def sameN (a b : Node) : Bool := lightB a && lightB b && eqN 16 a b
theorem rSame_eq (a b : Node) (ga : GoodN a) (gb : GoodN b) (k : lightB a = true → StrOk a) : ref15_Same a b = some (sameN a b) := by
 rw [ref15_Same, rlight_eq a ga, rlight_eq b gb, sameN]
 cases ha : lightB a with
 | false => rfl
 | true =>
  cases hb : lightB b with
  | false => rfl
  | true =>
   rw [requal_eq 16 600 a b (by omega) (light_iff.1 ha).2 (k ha)]
   rfl
theorem all2_refl {α : Type} {f : α → α → Bool} : ∀ {l : List α}, (∀ x ∈ l, f x x = true) → all2 f l l = true
 | [], _ => rfl
 | x :: l, h => by rw [all2, h x (List.mem_cons_self ..), all2_refl fun y hy => h y (List.mem_cons_of_mem _ hy)]; rfl
theorem eqN_refl : ∀ (d : Nat) (x : Node), deepN d x = true → eqN d x x = true
 | 0, x, h => by cases h
 | d + 1, x, h => by
  rw [eqN, all2_refl fun y hy => eqN_refl d y (deepN_sub h hy), sameB_refl]
  simp
theorem sameN_refl {x : Node} (h : Right 16 x) (hc : cntT 16 x ≤ 256) : sameN x x = true := by
 have hl := light_iff.2 ⟨hc, right_deep h⟩
 rw [sameN, hl, eqN_refl 16 x (right_deep h)]
 rfl
/-! ### texts -/
section
variable {d : Nat} {s : Step} {l : List Node} {c : Int} {y a b : Node} {n : List UInt8}
end
section
variable (x : Node) (g : GoodN x) (hN : lightB x = true → NamOk x)
include g hN
end
abbrev Txt := List UInt8
/-! ### the names in a program -/
def namesN : Nat → Node → List Txt
 | 0, x => if x.kind = 3 then [x.name] else []
 | d + 1, x => (if x.kind = 3 then [x.name] else []) ++ x.nodes.flatMap (namesN d)
/-! ### sorted and compacted -/
/-! ### the reference -/
section
variable (x : Node) (g : GoodN x) (hN : lightB x = true → NamOk x)
include g hN
end
/-! ### names by the bits of a number -/
/-! ### the first with an error -/
section
variable (x : Node) (g : GoodN x) (hN : lightB x = true → NamOk x)
include g hN
end
/-! ### more depth changes nothing -/
/-! ### normal forms -/
def nf : Nat → Node → Prop
 | 0, _ => True
 | d + 1, x => (x.kind = 1 → x.nodes.length ≠ 1 ∧ ∀ y ∈ x.nodes, y.kind ≠ 1) ∧ (x.kind = 2 → x.count ≠ 1) ∧ ∀ y ∈ x.nodes, nf d y
section
variable {d : Nat} {s : Step} {l : List Node} {c : Int} {y a b : Node} {n : List UInt8}
end
structure PartsOk (d : Nat) (z : Node) (L : List Node) : Prop where
 right : ∀ w ∈ L, Right d w
 cnt : (L.map (cntT d)).sum ≤ cntT d z
 steps : ∀ on, L.flatMap (stepsN on d) = stepsN on d z
 names : ∀ s, (∃ w ∈ L, s ∈ namesN d w) ↔ s ∈ namesN d z
 nfs : nf d z → ∀ w ∈ L, nf d w ∧ w.kind ≠ 1
 ne : L ≠ []
 mots : L.map (mot d) = if (mot d z).isList = true then (mot d z).prts else [mot d z]
structure PlainOk (d : Nat) (x z : Node) : Prop where
 right : Right d z
 cnt : cntT d z ≤ cntT d x
 nfs : nf d z
 steps : ∀ on, stepsN on d z = stepsN on d x
 names : ∀ s, s ∈ namesN d z ↔ s ∈ namesN d x
/-! ### the reference -/
/-! ### the functions -/
section
variable (x : Node) (g : GoodN x) (hN : lightB x = true → NamOk x)
include g hN
end
theorem zero_good : GoodN ⟨0, ⟨[], 0⟩, 0, [], []⟩ := .mk _ (by simp) (by simp) (by simp) (fun y hy => by cases hy)
theorem zero_light : lightB ⟨0, ⟨[], 0⟩, 0, [], []⟩ = true := by decide
theorem zero_same : sameN ⟨0, ⟨[], 0⟩, 0, [], []⟩ ⟨0, ⟨[], 0⟩, 0, [], []⟩ = true := by
 rw [sameN, zero_light, eqN_refl 16 _ (light_iff.1 zero_light).2]
 rfl
/-! ### tokens of a text -/
def FineK (k : Int) (s : Txt) : Prop := (k = 0 ∧ word s = 0) ∨ (k = 1 ∧ num s = 0) ∨ (k = 2 ∧ ∃ c, s = [c] ∧ signB c = true)
theorem FineK.len {k : Int} {s : Txt} (h : FineK k s) : s.length ≤ 24 := by
 rcases h with ⟨_, h⟩ | ⟨_, h⟩ | ⟨_, c, h, _⟩
 · exact word_len h
 · have := (num_zero.1 h).2.2.2; omega
 · rw [h]; simp
theorem tk_fineK {b : UInt8} {r : List UInt8} (h : (tk (b :: r)).2.2 = 0) : FineK (tk (b :: r)).1 ((b :: r).take (tk (b :: r)).2.1) := by
 unfold tk at h ⊢
 dsimp only at h ⊢
 by_cases h1 : letter b = true
 · rw [if_pos h1] at h ⊢
   refine .inl ⟨rfl, ?_⟩
   dsimp only at h ⊢
   rw [take_takeWhile]
   exact h
 · rw [if_neg h1] at h ⊢
   by_cases h2 : isD b = true
   · rw [if_pos h2] at h ⊢
     refine .inr (.inl ⟨rfl, ?_⟩)
     dsimp only at h ⊢
     rw [take_takeWhile]
     exact h
   · rw [if_neg h2] at h ⊢
     by_cases h3 : signB b = true
     · rw [if_pos h3]
       exact .inr (.inr ⟨rfl, b, rfl, h3⟩)
     · rw [if_neg h3] at h
       simp at h
theorem scanS_fine : ∀ (n : Nat) (s : List UInt8) (p : Nat), ∀ t ∈ (scanS n s p).1, FineK t.kind t.text
 | 0, _, _, t, h => by simp [scanS] at h
 | _ + 1, [], _, t, h => by simp [scanS] at h
 | n + 1, b :: r, p, t, h => by
  rw [scanS] at h
  split at h
  · exact scanS_fine n r (p + 1) t h
  · split at h
    · simp at h
    · rename_i h0
      rcases List.mem_cons.1 h with rfl | h
      · exact tk_fineK (Decidable.not_not.1 h0)
      · exact scanS_fine n _ _ t h
structure TokOk (T : List Token) : Prop where
 len : T.length ≤ 5000
 fine : ∃ ts e, T = ts ++ [e] ∧ e.kind = 3 ∧ e.text = [] ∧ ∀ t ∈ ts, FineK t.kind t.text
theorem TokOk.kind {T : List Token} (w : TokOk T) : ∀ t ∈ T, t.text.length ≤ 24 ∧ (t.kind = 1 → num t.text = 0) := by
 obtain ⟨ts, e, rfl, h1, h2, h3⟩ := w.fine
 intro t ht
 rcases List.mem_append.1 ht with ht | ht
 · have := h3 t ht
   refine ⟨this.len, fun hk => ?_⟩
   rcases this with ⟨h, _⟩ | ⟨_, h⟩ | ⟨h, _⟩
   · omega
   · exact h
   · omega
 · rw [List.mem_singleton.1 ht]
   exact ⟨by rw [h2]; simp, fun hk => by omega⟩
theorem TokOk.last {T : List Token} (w : TokOk T) {i : Nat} {t : Token} (h : T[i]? = some t) (hk : t.kind ≠ 3) : i + 1 < T.length := by
 obtain ⟨ts, e, rfl, h1, h2, h3⟩ := w.fine
 have hi : i < (ts ++ [e]).length := (List.getElem?_eq_some_iff.1 h).1
 by_cases hl : i = ts.length
 · subst hl
   rw [List.getElem?_append_right (Nat.le_refl _), Nat.sub_self] at h
   cases h
   exact absurd h1 hk
 · simp at hi ⊢
   omega
theorem at?_nat {α : Type} {l : List α} {i : Nat} : at? l (i : Int) = l[i]? := by
 unfold at?
 rw [if_pos (by omega), Int.toNat_natCast]
theorem at?_memT {T : List Token} {i : Int} {t : Token} (h : at? T i = some t) : t ∈ T := by
 unfold at? at h
 split at h
 · exact List.mem_of_getElem? h
 · cases h
/-! ### the same reader -/
section
variable (T : List Token)
theorem is_eq (i : Int) (c : Bool) (k : Int) (s : Txt) (hk : k ≠ 3) : ref15_Reader_is ⟨T, i, c⟩ k s = program_reader_takes ⟨T, i, c⟩ k s := by
 have : (k == 3) = false := by simpa using hk
 unfold ref15_Reader_is program_reader_takes
 dsimp only
 rw [this]
 simp only [Bool.or_false]
theorem want_eq (i : Int) (c : Bool) (k : Int) (s : Txt) (hk : k ≠ 3) : ref15_Reader_want ⟨T, i, c⟩ k s = program_reader_needs ⟨T, i, c⟩ k s := by
 unfold ref15_Reader_want program_reader_needs
 rw [is_eq T i c k s hk]
end
theorem letter_all : ((List.range 256).all fun n => (ref15_letter [n.toUInt8] == some (Lib.index [65, 66, 67, 68, 69, 70] [n.toUInt8])) && decide (-1 ≤ Lib.index [65, 66, 67, 68, 69, 70] [n.toUInt8])) = true := by kernel_rfl
theorem letter_eq (s : Txt) : ref15_letter s = some (if s.length = 1 then Lib.index [65, 66, 67, 68, 69, 70] s else -1) := by
 by_cases h : s.length = 1
 · match s, h with
   | [b], _ =>
    have := List.all_eq_true.1 letter_all b.toNat (List.mem_range.2 (UInt8.toNat_lt b))
    have e : b.toNat.toUInt8 = b := by simp
    rw [e, Bool.and_eq_true, beq_iff_eq] at this
    exact this.1
 · have h1 : ((s.length : Int) == 1) = false := by rw [beq_eq_false_iff_ne]; omega
   rw [ref15_letter, h1, if_neg h]
   rfl
theorem indexS_ok (s : Txt) : indexS [65, 66, 67, 68, 69, 70] s = some (Lib.index [65, 66, 67, 68, 69, 70] s) := if_pos (by decide)
theorem stepL_eq (T : List Token) (p1 p2 : Int) (b1 b2 : Bool) (K : Int → Bool → List Stroke → Option (Node × Int × Bool)) : ∀ (m : Nat) (i : Int) (c : Bool) (l : List Stroke), l.length + m ≤ 100000 → ref15_Reader_step_loop1 ⟨T, p1, b1⟩ K m (l.length : Int) i c l = program_reader_step_loop1 ⟨T, p2, b2⟩ K m i c l
 | 0, i, c, l, h => rfl
 | m + 1, i, c, l, h => by
  have ih := fun i c y => stepL_eq T p1 p2 b1 b2 K m i c (l ++ [y]) (by simp; omega)
  have hw : IntKind.wrap .i64 ((l.length : Int) + 1) = (l.length : Int) + 1 := wrap64 (by omega) (by omega)
  have ih2 : ∀ i c y, ref15_Reader_step_loop1 ⟨T, p1, b1⟩ K m ((l.length : Int) + 1) i c (l ++ [y]) = program_reader_step_loop1 ⟨T, p2, b2⟩ K m i c (l ++ [y]) := fun i c y => by
   have := ih i c y
   rwa [List.length_append, List.length_singleton] at this
  rw [ref15_Reader_step_loop1, program_reader_step_loop1]
  dsimp only
  cases c with
  | true => rfl
  | false =>
   rw [if_pos (by rfl), if_pos (by rfl)]
   cases hx : at? T i with
   | none => rfl
   | some t =>
    rw [Option.bind_some, Option.bind_some, letter_eq, indexS_ok, Option.bind_some, Option.bind_some]
    by_cases hk : t.kind = 0
    · have hk' : (t.kind != 0) = false := by simpa using hk
      rw [hk']
      by_cases hl : t.text.length = 1
      · have hl' : ((t.text.length : Int) != 1) = false := by rw [bne_eq_false_iff_eq]; omega
        rw [hl', if_pos hl, Bool.false_or, Bool.false_or, if_neg (by simp), Option.bind_some]
        by_cases hr : Lib.index [65, 66, 67, 68, 69, 70] t.text < 0
        · rw [if_pos (by simpa using hr), if_pos (by simpa using hr)]
        · rw [if_neg (by simpa using hr), if_neg (by simpa using hr), is_eq T _ _ _ _ (by decide)]
          congr 1
          funext r2
          rw [joinK, joinK, want_eq T _ _ _ _ (by decide), hw]
          simp only [Option.bind_some, ih2]
      · have hl' : ((t.text.length : Int) != 1) = true := by rw [bne_iff_ne]; omega
        rw [hl', if_neg hl, if_neg (by simp), Option.bind_some, if_pos (by decide), if_pos (by simp)]
    · have hk' : (t.kind != 0) = true := by simpa using hk
      rw [hk']
      rfl
theorem value_eq {s : Txt} (h : s = [] ∨ num s = 0) : program_value s = ref12_Worth s := by
 rcases h with rfl | h
 · kernel_rfl
 · obtain ⟨h1, h2, h3, h4⟩ := num_zero.1 h
   rw [program_value, lval_eq _ (by omega), worth_eq _ (by omega) h2, Option.bind_some]
   obtain ⟨b, r, rfl⟩ : ∃ b r, s = b :: r := by
    cases s with
    | nil => exact absurd rfl h1
    | cons b r => exact ⟨b, r, rfl⟩
   have hb := h2 b (by simp)
   rw [valS_pos (by
    intro q
    cases q
    revert hb
    decide), if_neg (by simpa using h)]
theorem value_some {s : Txt} (h : s = [] ∨ num s = 0) : ∃ n, program_value s = some n := by
 rw [program_value, lval_eq s (by
  rcases h with rfl | h
  · simp
  · have := (num_zero.1 h).2.2.2; omega)]
 exact ⟨_, rfl⟩
theorem takes_true {T : List Token} {i : Int} {c : Bool} {k : Int} {s : Txt} {r : Bool × Int × Bool} (h : program_reader_takes ⟨T, i, c⟩ k s = some r) (hr : r.1 = true) : ∃ t, at? T i = some t ∧ t.kind = k ∧ c = false ∧ r = (true, IntKind.wrap .i64 (i + 1), false) := by
 unfold program_reader_takes at h
 dsimp only at h
 cases hx : at? T i with
 | none => rw [hx] at h; cases h
 | some t =>
  rw [hx, Option.bind_some] at h
  split at h
  · cases h; cases hr
  · rename_i hc
    cases h
    simp only [Bool.or_eq_true, bne_iff_ne, not_or, Bool.not_eq_true] at hc
    exact ⟨t, rfl, by simpa using hc.1.2, hc.1.1, by rw [hc.1.1]⟩
theorem needs_num {T : List Token} (w : TokOk T) {i : Int} {c : Bool} {s : Txt} {r : Txt × Int × Bool} (h : program_reader_needs ⟨T, i, c⟩ 1 s = some r) : r.1 = [] ∨ num r.1 = 0 := by
 unfold program_reader_needs at h
 dsimp only at h
 cases hx : at? T i with
 | none => rw [hx] at h; cases h
 | some t =>
  rw [hx, Option.bind_some] at h
  cases hq : program_reader_takes ⟨T, i, c⟩ 1 s with
  | none => rw [hq] at h; cases h
  | some q =>
   rw [hq, Option.bind_some] at h
   by_cases h1 : q.1 = true
   · rw [if_neg (by rw [h1]; simp)] at h
     cases h
     obtain ⟨t', a, b, _⟩ := takes_true hq h1
     rw [hx] at a
     cases a
     exact .inr ((w.kind t (at?_memT hx)).2 b)
   · rw [if_pos (by simpa using h1)] at h
     cases h
     exact .inl rfl
theorem stepR_eq {T : List Token} (w : TokOk T) (i : Int) (c : Bool) : ref15_Reader_step ⟨T, i, c⟩ = program_reader_step ⟨T, i, c⟩ := by
 have hl := w.len
 rw [ref15_Reader_step, program_reader_step, joinK, joinK]
 dsimp only
 have := stepL_eq T i i c c (fun (i4 : Int) (c4 : Bool) (l3 : (List Stroke)) =>
  joinK (fun (i5 : Int) (c5 : Bool) (i6 : Int) =>
   some ((Node.mk 0 (Step.mk l3 i6) 0 [] []), i5, c5)) fun k3 =>
   (at? T i4).bind fun x2 =>
   (ref15_Reader_is (RefRdr.mk T i4 c4) 1 []).bind fun r5 =>
   if r5.1 = true then
   (ref12_Worth x2.text).bind fun r6 =>
    k3 r5.2.1 r5.2.2 r6
  else
   k3 r5.2.1 r5.2.2 0) (T.length + 2) i c [] (by simp; omega)
 rw [List.length_nil] at this
 refine Eq.trans this ?_
 congr 1
 funext i4 c4 l3
 rw [joinK, joinK, is_eq T _ _ _ _ (by decide)]
 cases hx : at? T i4 with
 | none => rfl
 | some t =>
  rw [Option.bind_some, Option.bind_some]
  cases hq : program_reader_takes ⟨T, i4, c4⟩ 1 [] with
  | none => rfl
  | some q =>
   rw [Option.bind_some, Option.bind_some]
   by_cases h1 : q.1 = true
   · obtain ⟨t', a, b, _⟩ := takes_true hq h1
     rw [hx] at a
     cases a
     rw [if_pos h1, if_pos h1, value_eq (.inr ((w.kind t (at?_memT hx)).2 b))]
   · rw [if_neg h1, if_neg h1]
theorem nodeL_eq {T : List Token} (s1 : RefRdr → Option (Node × Int × Bool)) (s2 : Rdr → Option (Node × Int × Bool)) (hs : ∀ i c, s1 ⟨T, i, c⟩ = s2 ⟨T, i, c⟩) (p1 p2 : Int) (b1 b2 : Bool) (K : Int → Bool → List Node → Option (Node × Int × Bool)) : ∀ (m : Nat) (i : Int) (c : Bool) (l : List Node), ref15_Reader_node_loop1 ⟨T, p1, b1⟩ s1 K m i c l = program_reader_node_loop1 ⟨T, p2, b2⟩ s2 K m i c l
 | 0, i, c, l => rfl
 | m + 1, i, c, l => by
  have ih := nodeL_eq s1 s2 hs p1 p2 b1 b2 K m
  rw [ref15_Reader_node_loop1, program_reader_node_loop1]
  dsimp only
  rw [is_eq T _ _ _ _ (by decide)]
  simp only [hs, ih]
theorem nodeR_eq {T : List Token} (w : TokOk T) : ∀ (n : Nat) (i : Int) (c : Bool), ref15_Reader_node n ⟨T, i, c⟩ = program_reader_node n ⟨T, i, c⟩
 | 0, i, c => rfl
 | n + 1, i, c => by
  have ih := nodeR_eq w n
  rw [ref15_Reader_node, program_reader_node, ref15_Reader_node_body, program_reader_node_body, joinK, joinK]
  dsimp only
  simp only [is_eq T _ _ _ _ (show (2 : Int) ≠ 3 by decide), is_eq T _ _ _ _ (show (0 : Int) ≠ 3 by decide), want_eq T _ _ _ _ (show (2 : Int) ≠ 3 by decide), want_eq T _ _ _ _ (show (0 : Int) ≠ 3 by decide), want_eq T _ _ _ _ (show (1 : Int) ≠ 3 by decide), ih, stepR_eq w, nodeL_eq _ _ ih i i c c]
  congr 1
  funext r1
  by_cases h1 : r1.1 = true
  · rw [if_pos h1, if_pos h1]
  · rw [if_neg h1, if_neg h1]
    congr 1
    funext r6
    by_cases h6 : r6.1 = true
    · rw [if_pos h6, if_pos h6]
      cases hq : program_reader_needs ⟨T, r6.2.1, r6.2.2⟩ 1 [] with
      | none => rfl
      | some q => rw [Option.bind_some, Option.bind_some, value_eq (needs_num w hq)]
    · rw [if_neg h6, if_neg h6]
/-! ### it comes to an end -/
inductive SmallN : Node → Prop
 | mk (x : Node) (h1 : x.step.strokes.length ≤ 100000) (h2 : x.name.length ≤ 100000) (h3 : x.nodes.length ≤ 100000) (k : ∀ y ∈ x.nodes, SmallN y) : SmallN x
theorem SmallN.good {x : Node} (h : SmallN x) : GoodN x := by
 induction h with
 | mk x h1 h2 h3 k ih => exact .mk x (by rw [maxLen_eq]; omega) (by rw [maxLen_eq]; omega) (by rw [maxLen_eq]; omega) ih
theorem SmallN.nam {x : Node} (h : SmallN x) : NamOk x := by
 induction h with
 | mk x h1 h2 h3 k ih => exact .mk x h2 ih
theorem takes_cases {T : List Token} (w : TokOk T) {i : Nat} (hi : i < T.length) (c : Bool) {k : Int} (hk : k ≠ 3) (s : Txt) :
 program_reader_takes ⟨T, (i : Int), c⟩ k s = some (false, (i : Int), c) ∨ (program_reader_takes ⟨T, (i : Int), c⟩ k s = some (true, ((i + 1 : Nat) : Int), false) ∧ i + 1 < T.length ∧ ∃ t ∈ T, T[i]? = some t ∧ t.kind = k) := by
 have hl := w.len
 have hx : at? T (i : Int) = some T[i] := by rw [at?_nat]; exact List.getElem?_eq_getElem hi
 unfold program_reader_takes
 dsimp only
 rw [hx, Option.bind_some]
 by_cases h : ((c || (T[i].kind != k)) || ((!(s == [])) && (!(T[i].text == s)))) = true
 · rw [if_pos h]; exact .inl rfl
 · rw [if_neg h]
   simp only [Bool.or_eq_true, bne_iff_ne, not_or, Bool.not_eq_true] at h
   have hk2 : T[i].kind = k := by simpa using h.1.2
   refine .inr ⟨?_, w.last (List.getElem?_eq_getElem hi) (by rw [hk2]; exact hk), T[i], List.getElem_mem hi, List.getElem?_eq_getElem hi, hk2⟩
   rw [h.1.1, wrap64 (by omega) (by omega)]
   rfl
theorem needs_cases {T : List Token} (w : TokOk T) {i : Nat} (hi : i < T.length) (c : Bool) {k : Int} (hk : k ≠ 3) (s : Txt) :
 ∃ (tx : Txt) (j : Nat) (c' : Bool), program_reader_needs ⟨T, (i : Int), c⟩ k s = some (tx, (j : Int), c') ∧ i ≤ j ∧ j < T.length ∧ tx.length ≤ 24 := by
 have hx : at? T (i : Int) = some T[i] := by rw [at?_nat]; exact List.getElem?_eq_getElem hi
 unfold program_reader_needs
 dsimp only
 rw [hx, Option.bind_some]
 rcases takes_cases w hi c hk s with h | ⟨h, h2, _⟩
 · rw [h]; exact ⟨[], i, true, rfl, Nat.le_refl _, hi, by simp⟩
 · rw [h]; exact ⟨T[i].text, i + 1, false, rfl, by omega, h2, (w.kind _ (List.getElem_mem hi)).1⟩
theorem stepL_total {T : List Token} (w : TokOk T) (p : Int) (b : Bool) (K : Int → Bool → List Stroke → Option (Node × Int × Bool)) : ∀ (m i : Nat) (c : Bool) (l : List Stroke), i < T.length → (if c = true then 1 else T.length - i + 1) ≤ m → l.length ≤ i →
 ∃ (j : Nat) (c' : Bool) (l' : List Stroke), program_reader_step_loop1 ⟨T, p, b⟩ K m (i : Int) c l = K (j : Int) c' l' ∧ i ≤ j ∧ j < T.length ∧ l'.length ≤ 5000
 | 0, i, c, l, hi, hm, hl => by
  exfalso
  split at hm <;> omega
 | m + 1, i, c, l, hi, hm, hl => by
  have hT := w.len
  rw [program_reader_step_loop1]
  dsimp only
  cases c with
  | true => exact ⟨i, true, l, rfl, Nat.le_refl _, hi, by omega⟩
  | false =>
   rw [if_neg (by simp)] at hm
   have hx : at? T (i : Int) = some T[i] := by rw [at?_nat]; exact List.getElem?_eq_getElem hi
   rw [if_pos (by rfl), hx, Option.bind_some, indexS_ok, Option.bind_some]
   by_cases hc : (((T[i].kind != 0) || ((T[i].text.length : Int) != 1)) || (decide (Lib.index [65, 66, 67, 68, 69, 70] T[i].text < 0))) = true
   · rw [if_pos hc]
     exact ⟨i, _, l, rfl, Nat.le_refl _, hi, by omega⟩
   · rw [if_neg hc]
     simp only [Bool.or_eq_true, bne_iff_ne, not_or] at hc
     have hk : T[i].kind = 0 := by simpa using hc.1.1
     have hi1 := w.last (List.getElem?_eq_getElem hi) (by rw [hk]; decide)
     rw [wrap64 (by omega) (by omega), show (i : Int) + 1 = ((i + 1 : Nat) : Int) by omega]
     have ap : ∀ y : Stroke, appO 16 l [y] = some (l ++ [y]) := fun y => appO_ok (by simp; omega) (by decide)
     rcases takes_cases w hi1 false (show (2 : Int) ≠ 3 by decide) [43] with h | ⟨h, h2, _⟩
     · obtain ⟨tx, j, c', h3, h4, h5, _⟩ := needs_cases w hi1 false (show (2 : Int) ≠ 3 by decide) [45]
       rw [h, Option.bind_some, joinK, if_pos (by rfl), h3, Option.bind_some, ap]
       dsimp only
       rw [Option.bind_some]
       obtain ⟨j', c'', l', q1, q2, q3, q4⟩ := stepL_total w p b K m j c' (l ++ [⟨Lib.index [65, 66, 67, 68, 69, 70] T[i].text, false⟩]) h5 (by split <;> omega) (by simp; omega)
       exact ⟨j', c'', l', q1, by omega, q3, q4⟩
     · rw [h, Option.bind_some, joinK, if_neg (by simp), ap]
       dsimp only
       rw [Option.bind_some]
       obtain ⟨j', c'', l', q1, q2, q3, q4⟩ := stepL_total w p b K m (i + 1 + 1) false (l ++ [⟨Lib.index [65, 66, 67, 68, 69, 70] T[i].text, true⟩]) h2 (by rw [if_neg (by simp)]; omega) (by simp; omega)
       exact ⟨j', c'', l', q1, by omega, q3, q4⟩
theorem step_total {T : List Token} (w : TokOk T) {i : Nat} (hi : i < T.length) (c : Bool) : ∃ (x : Node) (j : Nat) (c' : Bool), program_reader_step ⟨T, (i : Int), c⟩ = some (x, (j : Int), c') ∧ i ≤ j ∧ j < T.length ∧ SmallN x := by
 rw [program_reader_step, joinK]
 dsimp only
 obtain ⟨j, c', l', h1, h2, h3, h4⟩ := stepL_total w (i : Int) c (fun (i3 : Int) (c3 : Bool) (l3 : (List Stroke)) =>
  joinK (fun (i4 : Int) (c4 : Bool) (i5 : Int) =>
   some ((Node.mk 0 (Step.mk l3 i5) 0 [] []), i4, c4)) fun k3 =>
   (at? T i3).bind fun x2 =>
   (program_reader_takes (Rdr.mk T i3 c3) 1 []).bind fun r4 =>
   if r4.1 = true then
   (program_value x2.text).bind fun r5 =>
    k3 r4.2.1 r4.2.2 r5
  else
   k3 r4.2.1 r4.2.2 0) (T.length + 2) i c [] hi (by split <;> omega) (by simp)
 rw [h1, joinK]
 have hx : at? T (j : Int) = some T[j] := by rw [at?_nat]; exact List.getElem?_eq_getElem h3
 rw [hx, Option.bind_some]
 have sm : ∀ n, SmallN ⟨0, ⟨l', n⟩, 0, [], []⟩ := fun n => .mk _ (by show l'.length ≤ 100000; omega) (by simp) (by simp) (fun y hy => by cases hy)
 rcases takes_cases w h3 c' (show (1 : Int) ≠ 3 by decide) [] with h | ⟨h, h5, t, ht, h6, h7⟩
 · rw [h, Option.bind_some, if_neg (by simp)]
   exact ⟨_, j, c', rfl, h2, h3, sm 0⟩
 · have ht2 : T[j] = t := by rw [List.getElem?_eq_getElem h3] at h6; cases h6; rfl
   obtain ⟨n, hn⟩ := value_some (.inr ((w.kind t ht).2 h7))
   rw [h, Option.bind_some, if_pos rfl, ht2, hn, Option.bind_some]
   exact ⟨_, j + 1, false, rfl, by omega, h5, sm n⟩
theorem nodeL_total {T : List Token} (w : TokOk T) (self : Rdr → Option (Node × Int × Bool)) (i0 : Nat) (hs : ∀ (i : Nat) (c : Bool), i0 < i → i < T.length → ∃ (x : Node) (j : Nat) (c' : Bool), self ⟨T, (i : Int), c⟩ = some (x, (j : Int), c') ∧ i ≤ j ∧ j < T.length ∧ SmallN x) (p : Int) (b : Bool) (K : Int → Bool → List Node → Option (Node × Int × Bool)) : ∀ (m i : Nat) (c : Bool) (l : List Node), i0 ≤ i → i < T.length → T.length - i + 1 ≤ m → l.length ≤ i + 1 → (∀ y ∈ l, SmallN y) →
 ∃ (j : Nat) (c' : Bool) (l' : List Node), program_reader_node_loop1 ⟨T, p, b⟩ self K m (i : Int) c l = K (j : Int) c' l' ∧ i ≤ j ∧ j < T.length ∧ l'.length ≤ 5001 ∧ ∀ y ∈ l', SmallN y
 | 0, i, c, l, h0, hi, hm, hl, hy => by omega
 | m + 1, i, c, l, h0, hi, hm, hl, hy => by
  have hT := w.len
  rw [program_reader_node_loop1]
  dsimp only
  rcases takes_cases w hi c (show (2 : Int) ≠ 3 by decide) [59] with h | ⟨h, h2, _⟩
  · rw [h, Option.bind_some, if_neg (by simp)]
    exact ⟨i, c, l, rfl, Nat.le_refl _, hi, by omega, hy⟩
  · rw [h, Option.bind_some, if_pos rfl]
    obtain ⟨x, j, c', q1, q2, q3, q4⟩ := hs (i + 1) false (by omega) h2
    rw [q1, Option.bind_some, appO_ok (by simp; omega) (by decide), Option.bind_some]
    obtain ⟨j', c'', l', r1, r2, r3, r4⟩ := nodeL_total w self i0 hs p b K m j c' (l ++ [x]) (by omega) q3 (by omega) (by simp; omega) (fun y h => by
     rcases List.mem_append.1 h with h | h
     · exact hy y h
     · rw [List.mem_singleton.1 h]; exact q4)
    exact ⟨j', c'', l', r1, by omega, r3, r4⟩
theorem node_total {T : List Token} (w : TokOk T) : ∀ (n i : Nat) (c : Bool), i < T.length → T.length - i ≤ n → ∃ (x : Node) (j : Nat) (c' : Bool), program_reader_node n ⟨T, (i : Int), c⟩ = some (x, (j : Int), c') ∧ i ≤ j ∧ j < T.length ∧ SmallN x
 | 0, i, c, hi, hn => by omega
 | n + 1, i, c, hi, hn => by
  have hT := w.len
  have ih := fun (j : Nat) (c : Bool) (h1 : i < j) (h2 : j < T.length) => node_total w n j c h2 (by omega)
  rw [program_reader_node, program_reader_node_body, joinK]
  dsimp only
  rcases takes_cases w hi c (show (2 : Int) ≠ 3 by decide) [123] with h | ⟨h, h2, _⟩
  · rw [h, Option.bind_some, if_neg (by simp)]
    rcases takes_cases w hi c (show (0 : Int) ≠ 3 by decide) [114, 101, 112, 101, 97, 116] with h3 | ⟨h3, h4, _⟩
    · rw [h3, Option.bind_some, if_neg (by simp)]
      rcases takes_cases w hi c (show (0 : Int) ≠ 3 by decide) [105, 102] with h5 | ⟨h5, h6, _⟩
      · rw [h5, Option.bind_some, if_neg (by simp)]
        obtain ⟨x, j, c', q1, q2, q3, q4⟩ := step_total w hi c
        rw [q1]
        exact ⟨x, j, c', rfl, q2, q3, q4⟩
      · rw [h5, Option.bind_some, if_pos rfl]
        obtain ⟨tx, j, c', q1, q2, q3, q4⟩ := needs_cases w h6 false (show (0 : Int) ≠ 3 by decide) []
        rw [q1, Option.bind_some]
        obtain ⟨x, j2, c2, r1, r2, r3, r4⟩ := ih j c' (by omega) q3
        rw [r1, Option.bind_some]
        obtain ⟨tx2, j3, c3, s1, s2, s3, s4⟩ := needs_cases w r3 c2 (show (0 : Int) ≠ 3 by decide) [101, 108, 115, 101]
        rw [s1, Option.bind_some]
        obtain ⟨x2, j4, c4, t1, t2, t3, t4⟩ := ih j3 c3 (by omega) s3
        rw [t1, Option.bind_some]
        refine ⟨_, j4, c4, rfl, by omega, t3, .mk _ (by simp) (by show tx.length ≤ 100000; omega) (by simp) ?_⟩
        intro y hy
        rcases List.mem_cons.1 hy with rfl | hy
        · exact r4
        · rw [List.mem_singleton.1 hy]; exact t4
    · rw [h3, Option.bind_some, if_pos rfl]
      obtain ⟨tx, j, c', q1, q2, q3, q4⟩ := needs_cases w h4 false (show (1 : Int) ≠ 3 by decide) []
      obtain ⟨v, hv⟩ := value_some (needs_num w q1)
      rw [q1, Option.bind_some, hv, Option.bind_some]
      obtain ⟨x, j2, c2, r1, r2, r3, r4⟩ := ih j c' (by omega) q3
      rw [r1]
      exact ⟨_, j2, c2, rfl, by omega, r3, .mk _ (by simp) (by simp) (by simp) (fun y hy => by rw [List.mem_singleton.1 hy]; exact r4)⟩
  · rw [h, Option.bind_some, if_pos rfl]
    obtain ⟨x, j, c', q1, q2, q3, q4⟩ := ih (i + 1) false (by omega) h2
    rw [q1, Option.bind_some, joinK]
    obtain ⟨j2, c2, l', r1, r2, r3, r4, r5⟩ := nodeL_total w (program_reader_node n) i ih (i : Int) c (fun (i2 : Int) (c2 : Bool) (l3 : (List Node)) =>
     (program_reader_needs (Rdr.mk T i2 c2) 2 [125]).bind fun r5 =>
      some ((Node.mk 1 (Step.mk [] 0) 0 [] l3), r5.2.1, r5.2.2)) (T.length + 2) j c' [x] (by omega) q3 (by omega) (by simp) (fun y hy => by rw [List.mem_singleton.1 hy]; exact q4)
    rw [r1]
    obtain ⟨tx, j3, c3, s1, s2, s3, s4⟩ := needs_cases w r3 c2 (show (2 : Int) ≠ 3 by decide) [125]
    rw [s1]
    exact ⟨_, j3, c3, rfl, by omega, s3, .mk _ (by simp) (by simp) (by show l'.length ≤ 100000; omega) r5⟩
/-! ### the law of parsing -/
theorem tokOk_end {ts : List Token} {s : List UInt8} (hl : ts.length ≤ 4096) (h : ∀ t ∈ ts, FineK t.kind t.text) : TokOk (ts ++ [endT s]) :=
 ⟨by simp; omega, ts, endT s, rfl, rfl, rfl, h⟩
theorem scanR_ok {s : List UInt8} (h : (scanR s).2.2 = 0) (hs : s.length ≤ 4096) : TokOk (scanR s).1 ∧ (scanR s).1.length ≤ s.length + 1 ∧ 0 < (scanR s).1.length := by
 have hl := scanS_len s.length s 0
 have hf := scanS_fine s.length s 0
 unfold scanR at h ⊢
 rw [if_neg (by omega)] at h ⊢
 cases hz : (scanS s.length s 0).2 with
 | none =>
  dsimp only
  exact ⟨tokOk_end (by omega) hf, by simp; omega, by simp⟩
 | some q =>
  exfalso
  have herr : ∀ (n : Nat) (r : List UInt8) (p : Nat) q, (scanS n r p).2 = some q → q.2 ≠ 0 := by
   intro n
   induction n with
   | zero => intro r p q hq; simp [scanS] at hq
   | succ n ih =>
    intro r p q hq
    cases r with
    | nil => simp [scanS] at hq
    | cons b r =>
     rw [scanS] at hq
     split at hq
     · exact ih _ _ _ hq
     · split at hq
       · rename_i h2
         cases hq
         exact h2
       · exact ih _ _ _ hq
  rw [hz] at h
  exact herr _ _ _ _ hz h
theorem rSame_refl {x : Node} (h : Right 16 x) (hc : cntT 16 x ≤ 256) : ref15_Same x x = some true := by
 rw [rSame_eq x x (right_good h) (right_good h) fun _ => right_str h, sameN_refl h hc]
theorem rSame_zero : ref15_Same ⟨0, ⟨[], 0⟩, 0, [], []⟩ ⟨0, ⟨[], 0⟩, 0, [], []⟩ = some true := by
 rw [rSame_eq _ _ zero_good zero_good fun _ => .mk _ (by simp) (by simp) (fun y hy => by cases hy), zero_same]
theorem parse_both (s : List UInt8) (hs : s.length ≤ 400 ∨ 4096 < s.length) : ∃ (x : Node) (a e : Int), program_Parse s = some (x, a, e) ∧ ref15_Parse s = some (x, a, e) ∧ ref15_Same x x = some true := by
 rw [program_Parse, ref15_Parse, jscan_eq, rscan_eq, Option.bind_some, Option.bind_some]
 by_cases h0 : (scanR s).2.2 = 0
 · rw [if_neg (by simpa using h0), if_neg (by simpa using h0)]
   have hs4 : s.length ≤ 400 := by
    apply Classical.byContradiction
    intro q
    have : 4096 < s.length := by omega
    rw [scanR, if_pos this] at h0
    cases h0
   obtain ⟨w, hl, hp⟩ := scanR_ok h0 (by omega)
   obtain ⟨x, j, c, h1, h2, h3, h4⟩ := node_total w 600 0 false hp (by omega)
   have h1' : program_reader_node 600 ⟨(scanR s).1, 0, false⟩ = some (x, (j : Int), c) := h1
   have hx : at? (scanR s).1 (j : Int) = some (scanR s).1[j] := by rw [at?_nat]; exact List.getElem?_eq_getElem h3
   rw [nodeR_eq w, h1', Option.bind_some, Option.bind_some]
   dsimp only
   rw [hx, Option.bind_some, Option.bind_some, lcheckN_eq x h4.good (fun _ => h4.nam), rcheckN_eq x h4.good (fun _ => h4.nam)]
   by_cases hc : (c || ((scanR s).1[j].kind != 3)) = true
   · rw [if_pos hc]
     exact ⟨_, _, _, rfl, rfl, rSame_zero⟩
   · rw [if_neg hc, Option.bind_some]
     by_cases hk : checkN x = 0
     · rw [if_neg (by simpa using hk)]
       have hr := check_right.1 hk
       exact ⟨x, 0, 0, rfl, rfl, rSame_refl hr.1 hr.2⟩
     · rw [if_pos (by simpa using hk)]
       exact ⟨_, _, _, rfl, rfl, rSame_zero⟩
 · rw [if_pos (by simpa using h0), if_pos (by simpa using h0)]
   exact ⟨_, _, _, rfl, rfl, rSame_zero⟩
theorem law_Parses15 (s : List UInt8) : law15_ProgramParses s = some true := by
 rw [law15_ProgramParses, awake_true]
 by_cases h : (((decide ((s.length : Int) > 400)) && (decide ((s.length : Int) ≤ 4096))) || (decide ((s.length : Int) > 8192))) = true
 · rw [if_pos h]
   rfl
 · rw [if_neg h]
   simp only [Bool.or_eq_true, Bool.and_eq_true, decide_eq_true_eq, not_or, not_and] at h
   obtain ⟨x, a, e, h1, h2, h3⟩ := parse_both s (by omega)
   rw [h1, h2]
   simp only [Option.bind_some, h3, if_true, beq_self_eq_true, Bool.and_self, Bool.and_true]
end Go.Proofs.YtgpfgnpdbmbknaaGreatDoor.W
