import Derived.Test.YtgpfgnpdbmbknaaGreatDoorLawL
set_option linter.unusedVariables false
set_option linter.unusedSimpArgs false
set_option maxHeartbeats 2000000
set_option linter.unusedSectionVars false
set_option maxHeartbeats 200000
namespace Go.Proofs.YtgpfgnpdbmbknaaGreatDoor.W
open Go Go.RowKit
def runL {σ X : Type} (step : σ → X → Option (Bool × σ)) : List X → σ → Option (Bool × σ)
 | [], z => some (true, z)
 | a :: l, z => (step z a).bind fun q => if q.1 = true then runL step l q.2 else some (false, q.2)
theorem runL_append {σ X : Type} (step : σ → X → Option (Bool × σ)) (b : List X) : ∀ (a : List X) (z : σ), runL step (a ++ b) z = (runL step a z).bind fun q => if q.1 = true then runL step b q.2 else some (false, q.2)
 | [], z => by simp [runL]
 | x :: a, z => by
  rw [List.cons_append, runL, runL, Option.bind_assoc]
  congr 1
  funext q
  split
  · exact runL_append step b a q.2
  · rename_i h
    rw [Option.bind_some, if_neg (by simp)]
theorem GoodN.sub {x y : Node} (h : GoodN x) (hy : y ∈ x.nodes) : GoodN y := by cases h with | mk _ _ _ _ h4 => exact h4 y hy
theorem GoodN.len {x : Node} (h : GoodN x) : x.nodes.length ≤ maxLen := by cases h with | mk _ _ _ h3 _ => exact h3
theorem GoodN.name {x : Node} (h : GoodN x) : x.name.length ≤ maxLen := by cases h with | mk _ _ h2 _ _ => exact h2
theorem GoodN.strokes {x : Node} (h : GoodN x) : x.step.strokes.length ≤ maxLen := by cases h with | mk _ h1 _ _ _ => exact h1
theorem wrap_max {α : Type} {x : α} {pre r l : List α} (e : l = pre ++ x :: r) (h : l.length ≤ maxLen) : IntKind.wrap .i64 ((pre.length : Int) + 1) = ((pre ++ [x]).length : Int) := by
 rw [maxLen_eq] at h
 have : pre.length + 1 ≤ l.length := by rw [e]; simp
 rw [wrap64 (by omega) (by omega)]
 simp
def deepN : Nat → Node → Bool
 | 0, _ => false
 | d + 1, x => x.nodes.all (deepN d)
def cntT : Nat → Node → Nat
 | 0, _ => 1
 | d + 1, x => 1 + (x.nodes.map (cntT d)).sum
theorem cntT_pos : ∀ (d : Nat) (x : Node), 1 ≤ cntT d x
 | 0, x => Nat.le_refl _
 | d + 1, x => by rw [cntT]; omega
theorem deepN_sub {d : Nat} {x y : Node} (h : deepN (d + 1) x = true) (hy : y ∈ x.nodes) : deepN d y = true := List.all_eq_true.1 (by simpa [deepN] using h) y hy
theorem mem_sum {α : Type} {f : α → Nat} {l : List α} {y : α} (hy : y ∈ l) : f y ≤ (l.map f).sum := by
 induction l with
 | nil => cases hy
 | cons a l ih =>
  rw [List.map_cons, List.sum_cons]
  rcases List.mem_cons.1 hy with rfl | hy
  · omega
  · have := ih hy; omega
theorem len_sum {α : Type} {f : α → Nat} {l : List α} (h : ∀ y ∈ l, 1 ≤ f y) : l.length ≤ (l.map f).sum := by
 induction l with
 | nil => simp
 | cons a l ih =>
  rw [List.map_cons, List.sum_cons, List.length_cons]
  have := h a (List.mem_cons_self ..)
  have := ih fun y hy => h y (List.mem_cons_of_mem _ hy)
  omega
theorem cntT_sub {d : Nat} {x y : Node} (hy : y ∈ x.nodes) : cntT d y + 1 ≤ cntT (d + 1) x := by
 rw [cntT]; have := mem_sum (f := cntT d) hy; omega
theorem cntT_len {d : Nat} {x : Node} : x.nodes.length + 1 ≤ cntT (d + 1) x := by
 rw [cntT]; have := len_sum (f := cntT d) (l := x.nodes) fun y _ => cntT_pos d y; omega
theorem sum_congr {α : Type} {f g : α → Nat} {l : List α} (h : ∀ y ∈ l, f y = g y) : (l.map f).sum = (l.map g).sum := by
 rw [List.map_congr_left h]
theorem cntT_deep : ∀ {d e : Nat} {x : Node}, d ≤ e → deepN (d + 1) x = true → cntT e x = cntT d x
 | 0, 0, x, _, _ => rfl
 | 0, e + 1, x, _, h => by
  have hn : x.nodes = [] := by
   cases hq : x.nodes with
   | nil => rfl
   | cons y r => have := deepN_sub h (y := y) (by rw [hq]; exact List.mem_cons_self ..); cases this
  rw [cntT, cntT, hn]
  rfl
 | d + 1, 0, x, he, _ => by omega
 | d + 1, e + 1, x, he, h => by
  rw [cntT, cntT, sum_congr fun y hy => cntT_deep (by omega) (deepN_sub h hy)]
theorem min_sum {α : Type} {f g : α → Nat} {m : Nat} {l : List α} (h : ∀ y ∈ l, min (f y) m = min (g y) m) : min (l.map f).sum m = min (l.map g).sum m := by
 induction l with
 | nil => rfl
 | cons a l ih =>
  have h1 := h a (List.mem_cons_self ..)
  have h2 := ih fun y hy => h y (List.mem_cons_of_mem _ hy)
  rw [List.map_cons, List.map_cons, List.sum_cons, List.sum_cons]
  omega
theorem cntT_min : ∀ (d e : Nat) (x : Node), d ≤ e → min (cntT d x) (d + 1) = min (cntT e x) (d + 1)
 | 0, e, x, _ => by have := cntT_pos e x; have := cntT_pos 0 x; omega
 | d + 1, 0, x, he => by omega
 | d + 1, e + 1, x, he => by
  have := min_sum (f := cntT d) (g := cntT e) (m := d + 1) (l := x.nodes) fun y _ => cntT_min d e y (by omega)
  rw [cntT, cntT]
  omega
theorem rcount_loop (x : Node) (g : x.nodes.length ≤ maxLen) (most : Nat) (hm : most ≤ 100000) (self : Node → Int → Option Int) (hs : ∀ y ∈ x.nodes, ∀ m : Nat, m + 1 ≤ most → self y (m : Int) = some ((min (cntT m y) (m + 1) : Nat) : Int)) (k : Int → Option Int) :
 ∀ (r pre : List Node) (n : Nat), x.nodes = pre ++ r → 1 ≤ n → n ≤ most + 1 → ref15_count_loop1 x (most : Int) self k (r.length + 1) (n : Int) (pre.length : Int) = k ((min (n + (r.map (cntT (most - 1))).sum) (most + 1) : Nat) : Int)
 | [], pre, n, e, h1, h2 => by
  rw [ref15_count_loop1, e, ge_end, Bool.false_and, if_neg (by simp)]
  congr 2
  simp
  omega
 | y :: r, pre, n, e, h1, h2 => by
  have ih := fun n => rcount_loop x g most hm self hs k r (pre ++ [y]) n (by rw [e, mid_cons])
  have hw := wrap_max e g
  rw [List.length_cons, ref15_count_loop1, e, lt_mid, Bool.true_and]
  by_cases hn : n ≤ most
  · have hy : y ∈ x.nodes := by rw [e]; simp
    rw [if_pos (by rw [decide_eq_true_eq]; omega), at?_mid, Option.bind_some, wrap64 (x := (most : Int) - (n : Int)) (by omega) (by omega), show (most : Int) - (n : Int) = ((most - n : Nat) : Int) by omega, hs y hy (most - n) (by omega), Option.bind_some, wrap64 (x := (n : Int) + _) (by omega) (by omega), hw]
    have e2 : (n : Int) + ((min (cntT (most - n) y) (most - n + 1) : Nat) : Int) = ((n + min (cntT (most - n) y) (most - n + 1) : Nat) : Int) := by omega
    rw [e2, ih _ (by omega) (by omega)]
    congr 2
    have := cntT_min (most - n) (most - 1) y (by omega)
    rw [List.map_cons, List.sum_cons]
    omega
  · rw [if_neg (by rw [decide_eq_true_eq]; omega)]
    congr 2
    omega
theorem rcount_eq : ∀ (n most : Nat) (x : Node), most + 1 ≤ n → n ≤ 100000 → GoodN x → ref15_count n x (most : Int) = some ((min (cntT most x) (most + 1) : Nat) : Int)
 | 0, most, x, h, _, g => by omega
 | n + 1, most, x, h, hn, g => by
  rw [ref15_count, ref15_count_body, joinK]
  have := rcount_loop x g.len most (by omega) (ref15_count n) (fun y hy m hm => rcount_eq n m y (by omega) (by omega) (g.sub hy)) (fun i3 => some i3) x.nodes [] 1 rfl (by omega) (by omega)
  rw [show ((1 : Nat) : Int) = 1 from rfl] at this
  refine this.trans ?_
  congr 2
  cases most with
  | zero => rw [cntT]; omega
  | succ m => rw [cntT]; rfl
theorem rdeep_loop (x : Node) (g : x.nodes.length ≤ maxLen) (most : Int) (self : Node → Int → Option Bool) (f : Node → Bool) (hs : ∀ y ∈ x.nodes, self y (IntKind.wrap .i64 (most - 1)) = some (f y)) :
 ∀ (r pre : List Node), x.nodes = pre ++ r → ref15_deep_loop1 x most self (some true) (r.length + 1) (pre.length : Int) = some (r.all f)
 | [], pre, e => by rw [ref15_deep_loop1, e, ge_end, if_neg (by simp)]; rfl
 | y :: r, pre, e => by
  have ih := rdeep_loop x g most self f hs r (pre ++ [y]) (by rw [e, mid_cons])
  have hw := wrap_max e g
  have hy : y ∈ x.nodes := by rw [e]; simp
  rw [List.length_cons, ref15_deep_loop1, e, lt_mid, if_pos rfl, at?_mid, Option.bind_some, hs y hy, Option.bind_some, hw, ih, List.all_cons]
  cases f y <;> simp
theorem rdeep_eq : ∀ (n d : Nat) (x : Node), d + 1 ≤ n → n ≤ 100000 → GoodN x → ref15_deep n x (d : Int) = some (deepN d x)
 | 0, d, x, h, _, g => by omega
 | n + 1, 0, x, h, hn, g => by rw [ref15_deep, ref15_deep_body, if_pos (by decide)]; rfl
 | n + 1, d + 1, x, h, hn, g => by
  rw [ref15_deep, ref15_deep_body, if_neg (by rw [decide_eq_true_eq]; omega)]
  by_cases hd : d = 0
  · subst hd
    rw [if_pos (by rfl), deepN]
    cases hq : x.nodes with
    | nil => rfl
    | cons y r => simp [deepN]; omega
  · rw [if_neg (by simp; omega), joinK, fuel0]
    refine rdeep_loop x g.len _ _ (deepN d) (fun y hy => ?_) x.nodes [] rfl
    rw [wrap64 (by omega) (by omega), show ((d + 1 : Nat) : Int) - 1 = (d : Int) by omega]
    exact rdeep_eq n d y (by omega) (by omega) (g.sub hy)
def lightB (x : Node) : Bool := decide (cntT 16 x ≤ 256) && deepN 16 x
theorem light_iff {x : Node} : lightB x = true ↔ cntT 16 x ≤ 256 ∧ deepN 16 x = true := by
 rw [lightB, Bool.and_eq_true, decide_eq_true_eq]
theorem rlight_eq (x : Node) (g : GoodN x) : ref15_Light x = some (lightB x) := by
 rw [ref15_Light, show (256 : Int) = ((256 : Nat) : Int) from rfl, rcount_eq 600 256 x (by omega) (by omega) g, Option.bind_some, show (16 : Int) = ((16 : Nat) : Int) from rfl, rdeep_eq 600 16 x (by omega) (by omega) g, Option.bind_some]
 rw [lightB]
 cases hd : deepN 16 x with
 | false =>
  rw [Bool.and_false]
  split <;> rfl
 | true =>
  have := cntT_deep (d := 15) (e := 256) (x := x) (by omega) hd
  have := cntT_deep (d := 15) (e := 16) (x := x) (by omega) hd
  rw [Bool.and_true]
  by_cases hc : cntT 16 x ≤ 256
  · rw [if_pos (by rw [decide_eq_true_eq]; omega), decide_eq_true hc]; rfl
  · rw [if_neg (by rw [decide_eq_true_eq]; omega), decide_eq_false hc]; rfl
def preL : Nat → Int → Node → List (Int × Node)
 | 0, k, x => [(k, x)]
 | m + 1, k, x => (k, x) :: x.nodes.flatMap (preL m (k + 1))
section
variable {σ : Type} (step : σ → (Int × Node) → Option (Bool × σ))
theorem pre_loop0 (x : Node) (g : x.nodes.length ≤ maxLen) (k : Int) (hk : ¬ k ≤ 16) (self : Node → Int → σ → Option (Bool × σ)) (K : σ → Option (Bool × σ)) :
 ∀ (r pre : List Node) (z : σ), x.nodes = pre ++ r → program_preorder_1_1_loop1 x k self K (r.length + 1) z (pre.length : Int) = K z
 | [], pre, z, e => by rw [program_preorder_1_1_loop1, e, ge_end, if_neg (by simp)]
 | y :: r, pre, z, e => by
  have ih := pre_loop0 x g k hk self K r (pre ++ [y]) z (by rw [e, mid_cons])
  have hw := wrap_max e g
  rw [List.length_cons, program_preorder_1_1_loop1, e, lt_mid, if_pos rfl, at?_mid, Option.bind_some, if_neg (by rw [decide_eq_true_eq]; exact hk), hw, ih]
theorem pre_loop (x : Node) (g : x.nodes.length ≤ maxLen) (k : Int) (h0 : 0 ≤ k) (hk : k ≤ 16) (self : Node → Int → σ → Option (Bool × σ)) (f : Node → List (Int × Node)) (hs : ∀ y ∈ x.nodes, ∀ z, self y (k + 1) z = runL step (f y) z) :
 ∀ (r pre : List Node) (z : σ), x.nodes = pre ++ r → program_preorder_1_1_loop1 x k self (fun z => some (true, z)) (r.length + 1) z (pre.length : Int) = runL step (r.flatMap f) z
 | [], pre, z, e => by rw [program_preorder_1_1_loop1, e, ge_end, if_neg (by simp)]; rfl
 | y :: r, pre, z, e => by
  have ih := fun z => pre_loop x g k h0 hk self f hs r (pre ++ [y]) z (by rw [e, mid_cons])
  have hw := wrap_max e g
  have hy : y ∈ x.nodes := by rw [e]; simp
  rw [List.length_cons, program_preorder_1_1_loop1, e, lt_mid, if_pos rfl, at?_mid, Option.bind_some, if_pos (by rw [decide_eq_true_eq]; exact hk), hw, wrap64 (x := k + 1) (by omega) (by omega), hs y hy, List.flatMap_cons, runL_append]
  congr 1
  funext q
  split
  · exact ih q.2
  · rfl
theorem pre_eq : ∀ (m n : Nat) (k : Int) (x : Node) (z : σ), k + m = 17 → 0 ≤ k → m < n → GoodN x → program_preorder_1_1 step n x k z = runL step (preL m k x) z
 | m, 0, k, x, z, _, _, h, _ => by omega
 | 0, n + 1, k, x, z, hk, h0, _, g => by
  rw [program_preorder_1_1, program_preorder_1_1_body, preL, runL]
  congr 1
  funext q
  split
  · rw [joinK]
    exact pre_loop0 x g.len k (by omega) _ _ x.nodes [] q.2 rfl
  · rfl
 | m + 1, n + 1, k, x, z, hk, h0, h, g => by
  rw [program_preorder_1_1, program_preorder_1_1_body, preL, runL]
  congr 1
  funext q
  split
  · rw [joinK]
    exact pre_loop step x g.len k h0 (by omega) _ (preL m (k + 1)) (fun y hy z => pre_eq m n (k + 1) y z (by omega) (by omega) (by omega) (g.sub hy)) x.nodes [] q.2 rfl
  · rfl
theorem preorder_eq (x : Node) (z : σ) (g : GoodN x) : program_preorder_1 step x z = runL step (preL 16 1 x) z := by
 rw [program_preorder_1, pre_eq step 16 600 1 x z (by omega) (by omega) (by omega) g]
 cases runL step (preL 16 1 x) z with
 | none => rfl
 | some q =>
  obtain ⟨b, s⟩ := q
  cases b <;> rfl
end
theorem light_run : ∀ (L : List (Int × Node)) (c : Nat), c ≤ 256 → ∃ q, runL program_light_rng1 L (c : Int) = some q ∧ (q.1 = true ↔ c + L.length ≤ 256 ∧ ∀ a ∈ L, a.1 ≤ 16)
 | [], c, h => ⟨_, rfl, by simp [h]⟩
 | a :: L, c, h => by
  rw [runL, program_light_rng1, wrap64 (x := (c : Int) + 1) (by omega) (by omega)]
  by_cases h1 : c + 1 ≤ 256 ∧ a.1 ≤ 16
  · obtain ⟨q, h2, h3⟩ := light_run L (c + 1) h1.1
    refine ⟨q, ?_, ?_⟩
    · rw [if_neg (by simp; omega), Option.bind_some, if_pos rfl]
      exact h2
    · rw [h3, List.length_cons]
      simp only [List.mem_cons, forall_eq_or_imp]
      exact ⟨fun q => ⟨by omega, h1.2, q.2⟩, fun q => ⟨by omega, q.2.2⟩⟩
  · refine ⟨_, by rw [if_pos (by simp; omega), Option.bind_some, if_neg (by simp)], ?_⟩
    rw [List.length_cons]
    simp only [List.mem_cons, forall_eq_or_imp, Bool.false_eq_true, false_iff]
    rintro ⟨q1, q2, _⟩
    exact h1 ⟨by omega, q2⟩
theorem preL_deep : ∀ (m : Nat) (k : Int) (x : Node), k + m = 17 → ((∀ a ∈ preL m k x, a.1 ≤ 16) ↔ deepN m x = true)
 | 0, k, x, h => by
  rw [preL, deepN]
  simp
  omega
 | m + 1, k, x, h => by
  rw [preL, deepN, List.all_eq_true]
  simp only [List.mem_cons, List.mem_flatMap, forall_eq_or_imp]
  constructor
  · rintro ⟨_, h2⟩ y hy
    exact (preL_deep m (k + 1) y (by omega)).1 fun a ha => h2 a ⟨y, hy, ha⟩
  · intro h2
    refine ⟨by show k ≤ 16; omega, ?_⟩
    rintro a ⟨y, hy, ha⟩
    exact (preL_deep m (k + 1) y (by omega)).2 (h2 y hy) a ha
theorem preL_len : ∀ (m : Nat) (k : Int) (x : Node), (preL m k x).length = cntT m x
 | 0, k, x => rfl
 | m + 1, k, x => by
  rw [preL, cntT, List.length_cons, List.length_flatMap, sum_congr fun y _ => preL_len m (k + 1) y]
  omega
theorem llight_eq (x : Node) (g : GoodN x) : program_light x = some (lightB x) := by
 obtain ⟨q, h1, h2⟩ := light_run (preL 16 1 x) 0 (by omega)
 rw [program_light, preorder_eq _ x _ g, show (0 : Int) = ((0 : Nat) : Int) from rfl, h1, Option.bind_some]
 rw [preL_len, preL_deep 16 1 x (by omega), Nat.zero_add] at h2
 have h3 : q.1 = lightB x := by rw [Bool.eq_iff_iff, h2, light_iff]
 rw [h3]
 cases lightB x <;> rfl
def noStep (x : Step) : Bool := decide (x.strokes = []) && x.wait == 0
def shapeB (x : Node) : Bool :=
 if x.kind = 0 then decide (x.nodes = []) && x.count == 0 && x.name == []
 else if x.kind = 1 then decide (x.nodes ≠ []) && noStep x.step && x.count == 0 && x.name == []
 else if x.kind = 2 then x.nodes.length == 1 && noStep x.step && x.name == []
 else x.nodes.length == 2 && noStep x.step && x.count == 0
def nodeE (x : Node) : Int :=
 if x.kind < 0 ∨ x.kind > 3 then 1 else if shapeB x = false then 3
 else if x.kind = 0 then chk x.step else if x.kind = 2 then (if x.count < 1 ∨ x.count > 64 then 2 else 0) else if x.kind = 3 then word x.name else 0
theorem len0 {α : Type} {l : List α} : ((l.length : Int) == 0) = decide (l = []) := by
 cases l with
 | nil => rfl
 | cons a l => simp; omega
theorem lenP {α : Type} {l : List α} : decide ((l.length : Int) > 0) = decide (l ≠ []) := by
 cases l with
 | nil => rfl
 | cons a l => simp
theorem lenN {α : Type} {l : List α} (k : Nat) : ((l.length : Int) == (k : Int)) = (l.length == k) := by
 rw [Bool.eq_iff_iff, beq_iff_eq, beq_iff_eq]; omega
theorem lenN' {α : Type} {l : List α} (k : Nat) : ((l.length : Int) != (k : Int)) = (l.length != k) := by
 rw [bne, bne, lenN]
theorem lalone_eq (x : Node) (h : x.name.length ≤ 100000) : program_alone x = some (nodeE x) := by
 obtain ⟨k, s, c, n, l⟩ := x
 dsimp only at h
 unfold program_alone nodeE joinK shapeB noStep
 dsimp only
 rw [lchk_eq, lword_eq _ (by omega), len0, lenP, lenP, show (1 : Int) = ((1 : Nat) : Int) from rfl, show (2 : Int) = ((2 : Nat) : Int) from rfl, lenN', lenN']
 simp only [Option.bind_some]
 by_cases h0 : k = 0
 · subst h0
   by_cases a : l = [] <;> by_cases b : c = 0 <;> by_cases d : n = [] <;> simp [a, b, d]
 · by_cases h1 : k = 1
   · subst h1
     by_cases a : l = [] <;> by_cases b : c = 0 <;> by_cases d : n = [] <;> by_cases e : s.strokes = [] <;> by_cases f : s.wait = 0 <;> simp [a, b, d, e, f]
   · by_cases h2 : k = 2
     · subst h2
       by_cases q : c < 1 ∨ 64 < c <;> by_cases a : l.length = 1 <;> by_cases d : n = [] <;> by_cases e : s.strokes = [] <;> by_cases f : s.wait = 0 <;> simp [a, d, e, f, q]
     · by_cases h3 : k = 3
       · subst h3
         by_cases a : l.length = 2 <;> by_cases b : c = 0 <;> by_cases e : s.strokes = [] <;> by_cases f : s.wait = 0 <;> simp [a, b, e, f]
       · have hk : k < 0 ∨ k > 3 := by omega
         rw [if_pos hk]
         simp [h0, h1, h2, h3]
theorem ralone_eq (x : Node) (h : x.name.length ≤ 100000) : ref15_node x = some (nodeE x) := by
 have hs : ref15_shape x = some (shapeB x) := by
  unfold ref15_shape shapeB noStep
  rw [len0, lenP, len0, show (1 : Int) = ((1 : Nat) : Int) from rfl, show (2 : Int) = ((2 : Nat) : Int) from rfl, lenN, lenN]
  simp only [beq_iff_eq]
  repeat' split
  all_goals rfl
 unfold ref15_node nodeE joinK
 dsimp only
 rw [hs, rchk_eq, rword_eq _ (by omega)]
 simp only [Option.bind_some, beq_iff_eq, Bool.or_eq_true, decide_eq_true_eq, Bool.not_eq_true']
 repeat' split
 all_goals first | rfl | (exfalso; omega)
def firstE {α : Type} (f : α → Int) : List α → Int
 | [] => 0
 | a :: l => if f a ≠ 0 then f a else firstE f l
theorem firstE_zero {α : Type} {f : α → Int} : ∀ {l : List α}, firstE f l = 0 ↔ ∀ a ∈ l, f a = 0
 | [] => by simp [firstE]
 | a :: l => by
  rw [firstE]
  split
  · rename_i h
    constructor
    · intro q; exact absurd q h
    · intro q; exact q a (List.mem_cons_self ..)
  · rename_i h
    rw [firstE_zero]
    simp only [List.mem_cons, forall_eq_or_imp]
    exact ⟨fun q => ⟨Decidable.not_not.1 h, q⟩, fun q => q.2⟩
theorem firstE_append {α : Type} (f : α → Int) (b : List α) : ∀ a : List α, firstE f (a ++ b) = if firstE f a ≠ 0 then firstE f a else firstE f b
 | [] => by simp [firstE]
 | x :: a => by
  rw [List.cons_append, firstE, firstE, firstE_append f b a]
  by_cases h : f x = 0
  · simp only [h, ne_eq, not_true_eq_false, if_false]
  · simp only [h, ne_eq, not_false_eq_true, if_true]
theorem firstE_flatMap {α β : Type} (f : β → Int) (g : α → List β) : ∀ l : List α, firstE f (l.flatMap g) = firstE (fun y => firstE f (g y)) l
 | [] => rfl
 | x :: l => by rw [List.flatMap_cons, firstE_append, firstE, firstE_flatMap f g l]
theorem firstE_congr {α : Type} {f g : α → Int} : ∀ {l : List α}, (∀ a ∈ l, f a = g a) → firstE f l = firstE g l
 | [], _ => rfl
 | a :: l, h => by rw [firstE, firstE, h a (List.mem_cons_self ..), firstE_congr fun y hy => h y (List.mem_cons_of_mem _ hy)]
def nodesE : Nat → Node → Int
 | 0, x => nodeE x
 | d + 1, x => if nodeE x ≠ 0 then nodeE x else firstE (nodesE d) x.nodes
def checkN (x : Node) : Int := if lightB x = false then 5 else nodesE 16 x
inductive NamOk : Node → Prop
 | mk (x : Node) (h : x.name.length ≤ 100000) (k : ∀ y ∈ x.nodes, NamOk y) : NamOk x
theorem NamOk.here {x : Node} (h : NamOk x) : x.name.length ≤ 100000 := by cases h with | mk _ h _ => exact h
theorem NamOk.sub {x y : Node} (h : NamOk x) (hy : y ∈ x.nodes) : NamOk y := by cases h with | mk _ _ k => exact k y hy
theorem preL_nam : ∀ (m : Nat) (k : Int) (x : Node), NamOk x → ∀ a ∈ preL m k x, a.2.name.length ≤ 100000
 | 0, k, x, h, a, ha => by
  rw [preL, List.mem_singleton] at ha
  rw [ha]
  exact h.here
 | m + 1, k, x, h, a, ha => by
  rw [preL] at ha
  rcases List.mem_cons.1 ha with rfl | ha
  · exact h.here
  · obtain ⟨y, hy, ha⟩ := List.mem_flatMap.1 ha
    exact preL_nam m (k + 1) y (h.sub hy) a ha
theorem check_run : ∀ (L : List (Int × Node)) (q : Int), (∀ a ∈ L, a.2.name.length ≤ 100000) → runL program_Check_rng1 L q = some (if firstE (fun a => nodeE a.2) L = 0 then (true, q) else (false, firstE (fun a => nodeE a.2) L))
 | [], q, h => by simp [runL, firstE]
 | a :: L, q, h => by
  rw [runL, program_Check_rng1, lalone_eq _ (h a (List.mem_cons_self ..)), Option.bind_some, firstE]
  by_cases h0 : nodeE a.2 = 0
  · have e : (if nodeE a.2 ≠ 0 then nodeE a.2 else firstE (fun a : Int × Node => nodeE a.2) L) = firstE (fun a : Int × Node => nodeE a.2) L := if_neg (by simpa using h0)
    rw [e, if_neg (by simpa using h0), Option.bind_some, if_pos rfl]
    exact check_run L q fun y hy => h y (List.mem_cons_of_mem _ hy)
  · have e : (if nodeE a.2 ≠ 0 then nodeE a.2 else firstE (fun a : Int × Node => nodeE a.2) L) = nodeE a.2 := if_pos h0
    rw [e, if_pos (by simpa using h0), Option.bind_some, if_neg (by simp), if_neg h0]
theorem nodesE_pre : ∀ (m : Nat) (k : Int) (x : Node), firstE (fun a : Int × Node => nodeE a.2) (preL m k x) = nodesE m x
 | 0, k, x => by
  rw [preL, nodesE, firstE, firstE]
  split
  · rfl
  · rename_i h; exact (Decidable.not_not.1 h).symm
 | m + 1, k, x => by rw [preL, nodesE, firstE, firstE_flatMap, firstE_congr fun y _ => nodesE_pre m (k + 1) y]
theorem lcheckN_eq (x : Node) (g : GoodN x) (h : lightB x = true → NamOk x) : program_Check x = some (checkN x) := by
 rw [program_Check, llight_eq x g, Option.bind_some, checkN]
 cases hl : lightB x with
 | false => rfl
 | true =>
  rw [if_neg (by simp), preorder_eq _ x _ g, check_run _ _ (preL_nam 16 1 x (h hl)), nodesE_pre, Option.bind_some]
  by_cases h0 : nodesE 16 x = 0 <;> simp [h0]
theorem rnodes_loop (x : Node) (g : x.nodes.length ≤ maxLen) (self : Node → Option Int) (f : Node → Int) (hs : ∀ y ∈ x.nodes, self y = some (f y)) :
 ∀ (r pre : List Node), x.nodes = pre ++ r → ref15_nodes_loop1 x self (some 0) (r.length + 1) (pre.length : Int) = some (firstE f r)
 | [], pre, e => by rw [ref15_nodes_loop1, e, ge_end, if_neg (by simp)]; rfl
 | y :: r, pre, e => by
  have ih := rnodes_loop x g self f hs r (pre ++ [y]) (by rw [e, mid_cons])
  have hw := wrap_max e g
  have hy : y ∈ x.nodes := by rw [e]; simp
  rw [List.length_cons, ref15_nodes_loop1, e, lt_mid, if_pos rfl, at?_mid, Option.bind_some, hs y hy, Option.bind_some, hw, ih, firstE]
  by_cases h0 : f y = 0
  · rw [if_neg (by simpa using h0), if_neg (by simpa using h0)]
  · rw [if_pos (by simpa using h0), if_pos h0]
theorem rnodes_eq : ∀ (n d : Nat) (x : Node), d ≤ n → deepN d x = true → GoodN x → NamOk x → ref15_nodes n x = some (nodesE d x)
 | n, 0, x, _, h, _, _ => by cases h
 | 0, d + 1, x, hd, _, _, _ => by omega
 | n + 1, d + 1, x, hd, h, g, k => by
  rw [ref15_nodes, ref15_nodes_body, ralone_eq _ k.here, Option.bind_some, nodesE]
  by_cases h0 : nodeE x = 0
  · rw [if_neg (by simpa using h0), joinK, fuel0, if_neg (by simpa using h0)]
    exact rnodes_loop x g.len _ (nodesE d) (fun y hy => rnodes_eq n d y (by omega) (deepN_sub h hy) (g.sub hy) (k.sub hy)) x.nodes [] rfl
  · rw [if_pos (by simpa using h0), if_pos h0]
theorem rcheckN_eq (x : Node) (g : GoodN x) (h : lightB x = true → NamOk x) : ref15_Check x = some (checkN x) := by
 rw [ref15_Check, rlight_eq x g, Option.bind_some, checkN]
 cases hl : lightB x with
 | false => rfl
 | true =>
  rw [if_neg (by simp), rnodes_eq 600 16 x (by omega) (light_iff.1 hl).2 g (h hl), Option.bind_some]
  simp
inductive Right : Nat → Node → Prop
 | step (d : Nat) (s : Step) (h : chk s = 0) : Right (d + 1) ⟨0, s, 0, [], []⟩
 | list (d : Nat) (l : List Node) (h : l ≠ []) (hl : l.length ≤ 256) (k : ∀ y ∈ l, Right d y) : Right (d + 1) ⟨1, ⟨[], 0⟩, 0, [], l⟩
 | rep (d : Nat) (c : Int) (y : Node) (h0 : 1 ≤ c) (h1 : c ≤ 64) (h : Right d y) : Right (d + 1) ⟨2, ⟨[], 0⟩, c, [], [y]⟩
 | cho (d : Nat) (n : List UInt8) (a b : Node) (h : word n = 0) (ha : Right d a) (hb : Right d b) : Right (d + 1) ⟨3, ⟨[], 0⟩, 0, n, [a, b]⟩
theorem noStep_eq {s : Step} (h : noStep s = true) : s = ⟨[], 0⟩ := by
 obtain ⟨a, b⟩ := s
 simp [noStep] at h
 rw [h.1, h.2]
theorem right_of : ∀ (d : Nat) (x : Node), deepN d x = true → cntT d x ≤ 256 → nodesE d x = 0 → Right d x
 | 0, x, h, _, _ => by cases h
 | d + 1, x, h, hc, he => by
  rw [nodesE] at he
  have h0 : nodeE x = 0 := by
   apply Classical.byContradiction
   intro q
   rw [if_pos q] at he
   exact q he
  rw [if_neg (by simpa using h0), firstE_zero] at he
  have hsub : ∀ y ∈ x.nodes, Right d y := fun y hy => right_of d y (deepN_sub h hy) (by have := cntT_sub (d := d) hy; omega) (he y hy)
  have hlen := cntT_len (d := d) (x := x)
  obtain ⟨k, s, c, n, l⟩ := x
  unfold nodeE at h0
  dsimp only at h0 hsub hlen
  split at h0
  · cases h0
  · rename_i hk
    split at h0
    · cases h0
    · rename_i hs
      rw [Bool.not_eq_false] at hs
      unfold shapeB at hs
      dsimp only at hs
      split at h0
      · rename_i e
        rw [if_pos e] at hs
        simp at hs
        obtain ⟨⟨rfl, rfl⟩, rfl⟩ := hs
        rw [e]
        exact .step d s h0
      · rename_i e0
        rw [if_neg e0] at hs
        split at h0
        · rename_i e
          rw [if_neg (by omega), if_pos e] at hs
          simp at hs
          obtain ⟨⟨h1, h2⟩, rfl⟩ := hs
          obtain rfl := noStep_eq h2
          split at h0
          · cases h0
          · rename_i hcc
            match l, h1 with
            | [y], _ =>
             rw [e]
             exact .rep d c y (by omega) (by omega) (hsub y (List.mem_cons_self ..))
        · rename_i e2
          split at h0
          · rename_i e
            rw [if_neg (by omega), if_neg e2] at hs
            simp at hs
            obtain ⟨⟨h1, h2⟩, rfl⟩ := hs
            obtain rfl := noStep_eq h2
            match l, h1 with
            | [a, b], _ =>
             rw [e]
             exact .cho d n a b h0 (hsub a (by simp)) (hsub b (by simp))
          · rename_i e3
            have e : k = 1 := by omega
            rw [if_pos e] at hs
            simp at hs
            obtain ⟨⟨⟨h1, h2⟩, rfl⟩, rfl⟩ := hs
            obtain rfl := noStep_eq h2
            rw [e]
            exact .list d l h1 (by omega) hsub
theorem right_deep {d : Nat} {x : Node} (h : Right d x) : deepN d x = true := by
 induction h with
 | step d s h => rfl
 | list d l h hl k ih => rw [deepN, List.all_eq_true]; exact ih
 | rep d c y h0 h1 h ih => rw [deepN, List.all_eq_true]; intro z hz; rw [List.mem_singleton.1 hz]; exact ih
 | cho d n a b h ha hb iha ihb =>
  rw [deepN, List.all_eq_true]
  intro z hz
  rcases List.mem_cons.1 hz with rfl | hz
  · exact iha
  · rw [List.mem_singleton.1 hz]; exact ihb
theorem right_E {d : Nat} {x : Node} (h : Right d x) : nodesE d x = 0 := by
 have key : ∀ {d : Nat} {x : Node}, nodeE x = 0 → (∀ y ∈ x.nodes, nodesE d y = 0) → nodesE (d + 1) x = 0 := fun h0 k => by
  rw [nodesE, if_neg (by simpa using h0)]
  exact firstE_zero.2 k
 induction h with
 | step d s h => exact key (by simpa [nodeE, shapeB] using h) (fun y hy => by cases hy)
 | list d l h hl k ih => exact key (by simp [nodeE, shapeB, h, noStep]) ih
 | rep d c y h0 h1 h ih => exact key (by simp [nodeE, shapeB, noStep]; omega) (fun z hz => by rw [List.mem_singleton.1 hz]; exact ih)
 | cho d n a b h ha hb iha ihb => exact key (by simp [nodeE, shapeB, noStep, h]) (fun z hz => by
  rcases List.mem_cons.1 hz with rfl | hz
  · exact iha
  · rw [List.mem_singleton.1 hz]; exact ihb)
theorem word_len {s : List UInt8} (h : word s = 0) : s.length ≤ 24 := by
 unfold word at h
 repeat' split at h
 all_goals first | (cases h; done) | omega
theorem right_nam {d : Nat} {x : Node} (h : Right d x) : NamOk x := by
 induction h with
 | step d s h => exact .mk _ (by simp) (fun y hy => by cases hy)
 | list d l h hl k ih => exact .mk _ (by simp) ih
 | rep d c y h0 h1 h ih => exact .mk _ (by simp) (fun z hz => by rw [List.mem_singleton.1 hz]; exact ih)
 | cho d n a b h ha hb iha ihb => exact .mk _ (by have := word_len h; show n.length ≤ 100000; omega) (fun z hz => by
  rcases List.mem_cons.1 hz with rfl | hz
  · exact iha
  · rw [List.mem_singleton.1 hz]; exact ihb)
theorem right_good {d : Nat} {x : Node} (h : Right d x) : GoodN x := by
 induction h with
 | step d s h => exact .mk _ (by have := (chk_zero.1 h).few; show s.strokes.length ≤ maxLen; rw [maxLen_eq]; omega) (by simp) (by simp) (fun y hy => by cases hy)
 | list d l h hl k ih => exact .mk _ (by simp) (by simp) (by show l.length ≤ maxLen; rw [maxLen_eq]; omega) ih
 | rep d c y h0 h1 h ih => exact .mk _ (by simp) (by simp) (by simp [maxLen_eq]) (fun z hz => by rw [List.mem_singleton.1 hz]; exact ih)
 | cho d n a b h ha hb iha ihb => exact .mk _ (by simp) (by have := word_len h; show n.length ≤ maxLen; rw [maxLen_eq]; omega) (by simp [maxLen_eq]) (fun z hz => by
  rcases List.mem_cons.1 hz with rfl | hz
  · exact iha
  · rw [List.mem_singleton.1 hz]; exact ihb)
theorem check_right {x : Node} : checkN x = 0 ↔ Right 16 x ∧ cntT 16 x ≤ 256 := by
 unfold checkN
 constructor
 · intro h
   split at h
   · cases h
   · rename_i hl
     obtain ⟨a, b⟩ := light_iff.1 (by simpa using hl)
     exact ⟨right_of 16 x b a h, a⟩
 · rintro ⟨a, b⟩
   rw [if_neg (by rw [light_iff.2 ⟨b, right_deep a⟩]; simp)]
   exact right_E a
inductive ShortN : Node → Prop
 | mk (x : Node) (h1 : x.step.strokes.length ≤ 40) (h2 : x.name.length ≤ 60) (k : ∀ y ∈ x.nodes, ShortN y) : ShortN x
theorem ShortN.here {x : Node} (h : ShortN x) : x.step.strokes.length ≤ 40 ∧ x.name.length ≤ 60 := by cases h with | mk _ a b _ => exact ⟨a, b⟩
theorem ShortN.sub {x y : Node} (h : ShortN x) (hy : y ∈ x.nodes) : ShortN y := by cases h with | mk _ _ _ k => exact k y hy
theorem ShortN.nam {x : Node} (h : ShortN x) : NamOk x := by
 induction h with
 | mk x h1 h2 k ih => exact .mk x (by omega) ih
theorem short_loop (x : Node) (g : x.nodes.length ≤ maxLen) (self : Node → Option Bool) (f : Node → Bool) (hs : ∀ y ∈ x.nodes, self y = some (f y)) :
 ∀ (r pre : List Node), x.nodes = pre ++ r → ref15_short_loop1 x self (some true) (r.length + 1) (pre.length : Int) = some (r.all f)
 | [], pre, e => by rw [ref15_short_loop1, e, ge_end, if_neg (by simp)]; rfl
 | y :: r, pre, e => by
  have ih := short_loop x g self f hs r (pre ++ [y]) (by rw [e, mid_cons])
  have hw := wrap_max e g
  have hy : y ∈ x.nodes := by rw [e]; simp
  rw [List.length_cons, ref15_short_loop1, e, lt_mid, if_pos rfl, at?_mid, Option.bind_some, hs y hy, Option.bind_some, hw, ih, List.all_cons]
  cases f y <;> simp
def shortB : Nat → Node → Bool
 | 0, _ => false
 | d + 1, x => decide (x.step.strokes.length ≤ 40) && decide (x.name.length ≤ 60) && x.nodes.all (shortB d)
theorem short_eq15 : ∀ (n d : Nat) (x : Node), d ≤ n → deepN d x = true → GoodN x → ref15_short n x = some (shortB d x)
 | n, 0, x, _, h, _ => by cases h
 | 0, d + 1, x, hd, _, _ => by omega
 | n + 1, d + 1, x, hd, h, g => by
  rw [ref15_short, ref15_short_body, shortB, joinK, fuel0]
  have := short_loop x g.len (ref15_short n) (shortB d) (fun y hy => short_eq15 n d y (by omega) (deepN_sub h hy) (g.sub hy)) x.nodes [] rfl
  by_cases h1 : x.step.strokes.length ≤ 40
  · by_cases h2 : x.name.length ≤ 60
    · rw [if_neg (by simp; omega), decide_eq_true h1, decide_eq_true h2]
      exact this
    · rw [if_pos (by simp; omega), decide_eq_false h2]
      simp
  · rw [if_pos (by simp; omega), decide_eq_false h1]
    simp
theorem shortB_ok : ∀ (d : Nat) (x : Node), shortB d x = true → ShortN x
 | 0, x, h => by cases h
 | d + 1, x, h => by
  rw [shortB, Bool.and_eq_true, Bool.and_eq_true, decide_eq_true_eq, decide_eq_true_eq, List.all_eq_true] at h
  exact .mk x h.1.1 h.1.2 fun y hy => shortB_ok d y (h.2 y hy)
theorem few15_eq (x : Node) (g : GoodN x) : ∃ b, ref15_Few x = some b ∧ (b = true → lightB x = true → ShortN x ∧ cntT 16 x ≤ 30) := by
 rw [ref15_Few, show (512 : Int) = ((512 : Nat) : Int) from rfl, rcount_eq 600 512 x (by omega) (by omega) g, Option.bind_some, show (40 : Int) = ((40 : Nat) : Int) from rfl, rdeep_eq 600 40 x (by omega) (by omega) g]
 by_cases h1 : (decide (((min (cntT 512 x) (512 + 1) : Nat) : Int) > 30) && decide (((min (cntT 512 x) (512 + 1) : Nat) : Int) ≤ 256) || decide (((min (cntT 512 x) (512 + 1) : Nat) : Int) > ((512 : Nat) : Int))) = true
 · rw [if_pos h1]
   exact ⟨false, rfl, by simp⟩
 · rw [if_neg h1, Option.bind_some, Option.bind_some]
   cases hd : deepN 40 x with
   | false => exact ⟨false, rfl, by simp⟩
   | true =>
    rw [if_neg (by simp), short_eq15 600 40 x (by omega) hd g]
    have key : lightB x = true → cntT 512 x = cntT 16 x ∧ cntT 16 x ≤ 256 := fun hl => by
     obtain ⟨a, b⟩ := light_iff.1 hl
     have e1 := cntT_deep (d := 15) (e := 512) (x := x) (by omega) b
     have e2 := cntT_deep (d := 15) (e := 16) (x := x) (by omega) b
     exact ⟨by omega, a⟩
    by_cases h2 : decide (((min (cntT 512 x) (512 + 1) : Nat) : Int) > 256) = true
    · rw [if_pos h2]
      refine ⟨true, rfl, fun _ hl => ?_⟩
      have := key hl
      rw [decide_eq_true_eq] at h2
      omega
    · rw [if_neg h2]
      refine ⟨_, rfl, fun hb hl => ⟨shortB_ok 40 x hb, ?_⟩⟩
      have := key hl
      simp only [Bool.or_eq_true, Bool.and_eq_true, decide_eq_true_eq, not_or, not_and] at h1
      rw [decide_eq_true_eq] at h2
      omega
theorem fewNames_loop (l : List (List UInt8)) (K : Option Bool) (hl : l.length ≤ maxLen) : ∀ (r pre : List (List UInt8)), l = pre ++ r → ref15_FewNames_loop1 l K (r.length + 1) (pre.length : Int) = if (r.take (20 - pre.length)).all (fun s => decide (s.length ≤ 60)) = true then K else some false
 | [], pre, e => by
  rw [ref15_FewNames_loop1, e, ge_end, Bool.false_and, if_neg (by simp), if_pos (by simp)]
 | y :: r, pre, e => by
  have ih := fewNames_loop l K hl r (pre ++ [y]) (by rw [e, mid_cons])
  have hw := wrap_max e hl
  rw [List.length_cons, ref15_FewNames_loop1, e, lt_mid, Bool.true_and]
  by_cases h20 : pre.length < 20
  · rw [if_pos (by rw [decide_eq_true_eq]; omega), at?_mid, Option.bind_some, hw, ← e, ih]
    have e2 : (y :: r).take (20 - pre.length) = y :: r.take (20 - (pre ++ [y]).length) := by
     rw [show 20 - pre.length = (20 - (pre ++ [y]).length) + 1 by simp; omega, List.take_succ_cons]
    rw [e2, List.all_cons]
    by_cases h : y.length ≤ 60
    · rw [if_neg (by rw [decide_eq_true_eq]; omega), decide_eq_true h, Bool.true_and]
    · rw [if_pos (by rw [decide_eq_true_eq]; omega), decide_eq_false h, Bool.false_and, if_neg (by simp)]
  · rw [if_neg (by rw [decide_eq_true_eq]; omega), show 20 - pre.length = 0 by omega, if_pos (by simp)]
theorem fewNames_eq (l : List (List UInt8)) (hl : l.length ≤ maxLen) : ∃ b, ref15_FewNames l = some b ∧ (b = true → l.length ≤ 20 ∧ ∀ s ∈ l, s.length ≤ 60) := by
 rw [ref15_FewNames, joinK]
 have := fewNames_loop l (some (decide ((l.length : Int) ≤ 20))) hl l [] rfl
 refine ⟨_, this.trans (by rw [← apply_ite some]), fun h => ?_⟩
 split at h
 · rename_i hh
   rw [decide_eq_true_eq] at h
   have h20 : l.length ≤ 20 := by omega
   rw [List.take_of_length_le (by simpa using h20)] at hh
   exact ⟨h20, fun s hs => by simpa using List.all_eq_true.1 hh s hs⟩
 · cases h
theorem law_few (x : Node) (on : List (List UInt8)) (g : GoodN x) (hl : on.length ≤ maxLen) : ∃ b, law15_few x on = some b ∧ (b = true → (lightB x = true → ShortN x ∧ cntT 16 x ≤ 30) ∧ on.length ≤ 20 ∧ ∀ s ∈ on, s.length ≤ 60) := by
 obtain ⟨b, h1, h2⟩ := few15_eq x g
 obtain ⟨c, h3, h4⟩ := fewNames_eq on hl
 rw [law15_few, h1, h3, Option.bind_some]
 cases b with
 | false => exact ⟨false, rfl, by simp⟩
 | true => exact ⟨c, rfl, fun h => ⟨h2 rfl, h4 h⟩⟩
def mot : Nat → Node → Motion
 | 0, _ => .list []
 | d + 1, x => if x.kind = 0 then .single x.step else if x.kind = 1 then .list (x.nodes.map (mot d)) else if x.kind = 2 then .repeat_ x.count (mot d (x.nodes.headD x)) else .choice x.name (mot d (x.nodes.headD x)) (mot d ((x.nodes.drop 1).headD x))
section
variable {d : Nat} {s : Step} {l : List Node} {c : Int} {y a b : Node} {n : List UInt8}
theorem mot_step : mot (d + 1) ⟨0, s, 0, [], []⟩ = .single s := by simp [mot]
theorem mot_list : mot (d + 1) ⟨1, ⟨[], 0⟩, 0, [], l⟩ = .list (l.map (mot d)) := by simp [mot]
theorem mot_rep : mot (d + 1) ⟨2, ⟨[], 0⟩, c, [], [y]⟩ = .repeat_ c (mot d y) := by simp [mot]
theorem mot_cho : mot (d + 1) ⟨3, ⟨[], 0⟩, 0, n, [a, b]⟩ = .choice n (mot d a) (mot d b) := by simp [mot]
end
theorem of_loop (x : Node) (hl : x.nodes.length ≤ 1000) (self : Node → Option Motion) (f : Node → Motion) (hs : ∀ y ∈ x.nodes, self y = some (f y)) (K : List Motion → Option Motion) :
 ∀ (r pre : List Node), x.nodes = pre ++ r → program_of_loop1 x self K (r.length + 1) (pre.length : Int) (pre.map f) = K (x.nodes.map f)
 | [], pre, e => by rw [program_of_loop1, e, ge_end, if_neg (by simp), List.append_nil]
 | y :: r, pre, e => by
  have ih := of_loop x hl self f hs K r (pre ++ [y]) (by rw [e, mid_cons])
  have hy : y ∈ x.nodes := by rw [e]; simp
  have hpl0 : x.nodes.length = pre.length + (r.length + 1) := by rw [e]; simp
  have hpl : pre.length ≤ 1000 := by omega
  have hw := wrap_mid (x := y) (r := r) (pre := pre) (by rw [← e]; omega)
  rw [List.length_cons, program_of_loop1]
  rw [show decide ((pre.length : Int) < (x.nodes.length : Int)) = true by rw [e]; exact lt_mid, if_pos rfl, show at? x.nodes (pre.length : Int) = some y by rw [e]; exact at?_mid, Option.bind_some, hs y hy, Option.bind_some, appO_ok (by simp; omega) (by decide), Option.bind_some, hw]
  rw [List.map_append] at ih
  exact ih
theorem of_eq : ∀ (d n : Nat) (x : Node), d ≤ n → Right d x → program_of n x = some (mot d x) := by
 intro d n x hn h
 induction h generalizing n with
 | step d s h =>
  obtain ⟨n, rfl⟩ : ∃ k, n = k + 1 := ⟨n - 1, by omega⟩
  rw [mot_step]
  rfl
 | list d l h hl k ih =>
  obtain ⟨n, rfl⟩ : ∃ k, n = k + 1 := ⟨n - 1, by omega⟩
  rw [program_of, program_of_body, joinK, fuel0, mot_list]
  have := of_loop ⟨1, ⟨[], 0⟩, 0, [], l⟩ (by show l.length ≤ 1000; omega) (program_of n) (mot d) (fun y hy => ih y hy n (by omega))
  exact this _ l [] rfl
 | rep d c y h0 h1 h ih =>
  obtain ⟨n, rfl⟩ : ∃ k, n = k + 1 := ⟨n - 1, by omega⟩
  rw [program_of, program_of_body, joinK, fuel0, mot_rep]
  have := of_loop ⟨2, ⟨[], 0⟩, c, [], [y]⟩ (by simp) (program_of n) (mot d) (fun z hz => by rw [List.mem_singleton.1 hz]; exact ih n (by omega))
  exact this _ [y] [] rfl
 | cho d nm a b h ha hb iha ihb =>
  obtain ⟨n, rfl⟩ : ∃ k, n = k + 1 := ⟨n - 1, by omega⟩
  rw [program_of, program_of_body, joinK, fuel0, mot_cho]
  have := of_loop ⟨3, ⟨[], 0⟩, 0, nm, [a, b]⟩ (by simp) (program_of n) (mot d) (fun z hz => by
   rcases List.mem_cons.1 hz with rfl | hz
   · exact iha n (by omega)
   · rw [List.mem_singleton.1 hz]; exact ihb n (by omega))
  exact this _ [a, b] [] rfl
def stepsN (on : List (List UInt8)) : Nat → Node → List Step
 | 0, _ => []
 | d + 1, x => if x.kind = 0 then [x.step] else if x.kind = 1 then x.nodes.flatMap (stepsN on d) else if x.kind = 2 then (List.replicate x.count.toNat (stepsN on d (x.nodes.headD x))).flatten
  else if x.name ∈ on then stepsN on d (x.nodes.headD x) else stepsN on d ((x.nodes.drop 1).headD x)
section
variable {on : List (List UInt8)} {d : Nat} {s : Step} {l : List Node} {c : Int} {y a b : Node} {n : List UInt8}
end
section
variable {σ : Type} (step : σ → Step → Option (Bool × σ)) (on : List (List UInt8)) (self : (σ → Step → Option (Bool × σ)) → Motion → List (List UInt8) → σ → Option (Bool × σ))
end
theorem awake_true : law15_awake = some true := by kernel_rfl
def ifOk {α : Type} (x : Node) (z : α) (r : α × Int) : α × Int := if checkN x ≠ 0 then (z, checkN x) else r
section
variable (x : Node) (g : GoodN x) (hN : lightB x = true → NamOk x) (on : List (List UInt8)) (hon : on.length ≤ 1000000)
include g hN
theorem ok_of {α : Type} {f : Option (α × Int)} {z : α} {r : α × Int} (k : Right 16 x → cntT 16 x ≤ 256 → f = some r) (e : Int) (he : e = checkN x) : (if (e != 0) = true then some (z, e) else f) = some (ifOk x z r) := by
 subst he
 unfold ifOk
 by_cases h : checkN x = 0
 · rw [if_neg (by simpa using h), if_neg (by simpa using h)]
   exact k (check_right.1 h).1 (check_right.1 h).2
 · rw [if_pos (by simpa using h), if_pos h]
include hon
end
def all2 {α : Type} (f : α → α → Bool) : List α → List α → Bool
 | [], [] => true
 | x :: r, y :: q => f x y && all2 f r q
 | _, _ => false
def eqN : Nat → Node → Node → Bool
 | 0, _, _ => false
 | d + 1, a, b => a.kind == b.kind && sameB a.step b.step && a.count == b.count && a.name == b.name && all2 (eqN d) a.nodes b.nodes
inductive StrOk : Node → Prop
 | mk (x : Node) (h : x.step.strokes.length ≤ 100000) (h2 : x.nodes.length ≤ maxLen) (k : ∀ y ∈ x.nodes, StrOk y) : StrOk x
theorem StrOk.here {x : Node} (h : StrOk x) : x.step.strokes.length ≤ 100000 ∧ x.nodes.length ≤ maxLen := by cases h with | mk _ a b _ => exact ⟨a, b⟩
theorem StrOk.sub {x y : Node} (h : StrOk x) (hy : y ∈ x.nodes) : StrOk y := by cases h with | mk _ _ _ k => exact k y hy
theorem ShortN.str {x : Node} (h : ShortN x) (g : GoodN x) : StrOk x := by
 induction h with
 | mk x h1 h2 k ih => exact .mk x (by omega) g.len fun y hy => ih y hy (g.sub hy)
theorem right_str {d : Nat} {x : Node} (h : Right d x) : StrOk x := by
 induction h with
 | step d s h => exact .mk _ (by have := (chk_zero.1 h).few; show s.strokes.length ≤ 100000; omega) (by simp) (fun y hy => by cases hy)
 | list d l h hl k ih => exact .mk _ (by simp) (by show l.length ≤ maxLen; rw [maxLen_eq]; omega) ih
 | rep d c y h0 h1 h ih => exact .mk _ (by simp) (by simp [maxLen_eq]) (fun z hz => by rw [List.mem_singleton.1 hz]; exact ih)
 | cho d n a b h ha hb iha ihb => exact .mk _ (by simp) (by simp [maxLen_eq]) (fun z hz => by
  rcases List.mem_cons.1 hz with rfl | hz
  · exact iha
  · rw [List.mem_singleton.1 hz]; exact ihb)
theorem all2_len {α : Type} {f : α → α → Bool} : ∀ {l q : List α}, l.length ≠ q.length → all2 f l q = false
 | [], [], h => absurd rfl h
 | [], _ :: _, _ => rfl
 | _ :: _, [], _ => rfl
 | x :: l, y :: q, h => by rw [all2, all2_len (fun e => h (by simp [e])), Bool.and_false]
theorem eqf_loop (s1 s2 : List Node) (hb : s1.length ≤ maxLen) (self : Node → Node → Option Bool) (f : Node → Node → Bool) (hs : ∀ x ∈ s1, ∀ y, self x y = some (f x y)) :
 ∀ (r q pre pre2 : List Node), s1 = pre ++ r → s2 = pre2 ++ q → pre.length = pre2.length → r.length = q.length → slices_EqualFunc_api_Node_api_Nodeapi_Nodeapi_Node_program_equal_loop1 s1 s2 self (some true) (r.length + 1) (pre.length : Int) = some (all2 f r q)
 | [], [], pre, pre2, e, _, _, _ => by
  rw [slices_EqualFunc_api_Node_api_Nodeapi_Nodeapi_Node_program_equal_loop1, end_mid e]
  rfl
 | x :: r, y :: q, pre, pre2, e, e2, hp, hl => by
  have ih := eqf_loop s1 s2 hb self f hs r q (pre ++ [x]) (pre2 ++ [y]) (by rw [e, mid_cons]) (by rw [e2, mid_cons]) (by simp [hp]) (by simpa using hl)
  have hw := wrap_max e hb
  have a1 : at? s1 (pre.length : Int) = some x := by rw [e]; exact at?_mid
  have a2 : at? s2 (pre.length : Int) = some y := by rw [e2, hp]; exact at?_mid
  rw [List.length_cons, slices_EqualFunc_api_Node_api_Nodeapi_Nodeapi_Node_program_equal_loop1, show decide ((pre.length : Int) < (s1.length : Int)) = true by rw [e]; exact lt_mid, if_pos rfl, a1, Option.bind_some, a2, Option.bind_some, hs x (by rw [e]; simp), Option.bind_some, hw, ih, all2]
  cases f x y <;> simp
 | [], _ :: _, _, _, _, _, _, h => by simp at h
 | _ :: _, [], _, _, _, _, _, h => by simp at h
theorem lequal_eq : ∀ (d n : Nat) (a b : Node), d ≤ n → deepN d a = true → StrOk a → program_equal n a b = some (eqN d a b)
 | 0, n, a, b, _, h, _ => by cases h
 | d + 1, 0, a, b, hn, _, _ => by omega
 | d + 1, n + 1, a, b, hn, h, k => by
  rw [program_equal, program_equal_body, lsame_eq _ _ k.here.1, eqN]
  have hE : slices_EqualFunc_api_Node_api_Nodeapi_Nodeapi_Node_program_equal (program_equal n) a.nodes b.nodes = some (all2 (eqN d) a.nodes b.nodes) := by
   rw [slices_EqualFunc_api_Node_api_Nodeapi_Nodeapi_Node_program_equal]
   by_cases hl : a.nodes.length = b.nodes.length
   · rw [if_neg (by simp; omega), joinK, fuel0]
     exact eqf_loop a.nodes b.nodes k.here.2 _ (eqN d) (fun x hx y => lequal_eq d n x y (by omega) (deepN_sub h hx) (k.sub hx)) a.nodes b.nodes [] [] rfl rfl rfl hl
   · rw [if_pos (by simp; omega), all2_len hl]
  rw [hE]
  cases a.kind == b.kind <;> cases sameB a.step b.step <;> cases a.count == b.count <;> cases a.name == b.name <;> simp
theorem rquery_loop (a b : Node) (hb : a.nodes.length ≤ maxLen) (self : Node → Node → Option Bool) (f : Node → Node → Bool) (hs : ∀ x ∈ a.nodes, ∀ y, self x y = some (f x y)) :
 ∀ (r q pre pre2 : List Node), a.nodes = pre ++ r → b.nodes = pre2 ++ q → pre.length = pre2.length → r.length = q.length → ref15_equal_loop1 a b self (some true) (r.length + 1) (pre.length : Int) = some (all2 f r q)
 | [], [], pre, pre2, e, _, _, _ => by
  rw [ref15_equal_loop1, end_mid e]
  rfl
 | x :: r, y :: q, pre, pre2, e, e2, hp, hl => by
  have ih := rquery_loop a b hb self f hs r q (pre ++ [x]) (pre2 ++ [y]) (by rw [e, mid_cons]) (by rw [e2, mid_cons]) (by simp [hp]) (by simpa using hl)
  have hw := wrap_max e hb
  have a1 : at? a.nodes (pre.length : Int) = some x := by rw [e]; exact at?_mid
  have a2 : at? b.nodes (pre.length : Int) = some y := by rw [e2, hp]; exact at?_mid
  rw [List.length_cons, ref15_equal_loop1, show decide ((pre.length : Int) < (a.nodes.length : Int)) = true by rw [e]; exact lt_mid, if_pos rfl, a1, Option.bind_some, a2, Option.bind_some, hs x (by rw [e]; simp), Option.bind_some, hw, ih, all2]
  cases f x y <;> simp
 | [], _ :: _, _, _, _, _, _, h => by simp at h
 | _ :: _, [], _, _, _, _, _, h => by simp at h
theorem requal_eq : ∀ (d n : Nat) (a b : Node), d ≤ n → deepN d a = true → StrOk a → ref15_equal n a b = some (eqN d a b)
 | 0, n, a, b, _, h, _ => by cases h
 | d + 1, 0, a, b, hn, _, _ => by omega
 | d + 1, n + 1, a, b, hn, h, k => by
  rw [ref15_equal, ref15_equal_body, rsame_eq _ _ k.here.1, eqN, joinK, fuel0]
  by_cases hl : a.nodes.length = b.nodes.length
  · have hE := rquery_loop a b k.here.2 _ (eqN d) (fun x hx y => requal_eq d n x y (by omega) (deepN_sub h hx) (k.sub hx)) a.nodes b.nodes [] [] rfl rfl rfl hl
    have h0 : ((([] : List Node).length : Nat) : Int) = 0 := rfl
    rw [h0] at hE
    have hl' : ((a.nodes.length : Int) != (b.nodes.length : Int)) = false := by simp; omega
    rw [hE, hl', bne, bne]
    cases a.kind == b.kind <;> cases sameB a.step b.step <;> cases a.count == b.count <;> cases a.name == b.name <;> simp
  · have hl' : ((a.nodes.length : Int) != (b.nodes.length : Int)) = true := by simp; omega
    rw [hl', Bool.or_true, if_pos rfl, Option.bind_some, if_pos rfl, all2_len hl, Bool.and_false]
def sameN (a b : Node) : Bool := lightB a && lightB b && eqN 16 a b
theorem lSame_eq (a b : Node) (ga : GoodN a) (gb : GoodN b) (k : lightB a = true → StrOk a) : program_Same a b = some (sameN a b) := by
 rw [program_Same, llight_eq a ga, llight_eq b gb, sameN]
 cases ha : lightB a with
 | false => rfl
 | true =>
  cases hb : lightB b with
  | false => rfl
  | true =>
   rw [lequal_eq 16 600 a b (by omega) (light_iff.1 ha).2 (k ha)]
   rfl
theorem rSame_eq (a b : Node) (ga : GoodN a) (gb : GoodN b) (k : lightB a = true → StrOk a) : ref15_Same a b = some (sameN a b) := by
 rw [ref15_Same, rlight_eq a ga, rlight_eq b gb, sameN]
 cases ha : lightB a with
 | false => rfl
 | true =>
  cases hb : lightB b with
  | false => rfl
  | true =>
   rw [requal_eq 16 600 a b (by omega) (light_iff.1 ha).2 (k ha)]
   rfl
theorem all2_refl {α : Type} {f : α → α → Bool} : ∀ {l : List α}, (∀ x ∈ l, f x x = true) → all2 f l l = true
 | [], _ => rfl
 | x :: l, h => by rw [all2, h x (List.mem_cons_self ..), all2_refl fun y hy => h y (List.mem_cons_of_mem _ hy)]; rfl
theorem eqN_refl : ∀ (d : Nat) (x : Node), deepN d x = true → eqN d x x = true
 | 0, x, h => by cases h
 | d + 1, x, h => by
  rw [eqN, all2_refl fun y hy => eqN_refl d y (deepN_sub h hy), sameB_refl]
  simp
theorem sameN_refl {x : Node} (h : Right 16 x) (hc : cntT 16 x ≤ 256) : sameN x x = true := by
 have hl := light_iff.2 ⟨hc, right_deep h⟩
 rw [sameN, hl, eqN_refl 16 x (right_deep h)]
 rfl
def textN : Nat → Node → List UInt8
 | 0, _ => []
 | d + 1, x => if x.kind = 0 then lineS x.step else if x.kind = 1 then [123, 32] ++ Lib.join (x.nodes.map (textN d)) [59, 32] ++ [32, 125]
  else if x.kind = 2 then [114, 101, 112, 101, 97, 116, 32] ++ Lib.decDigits x.count.toNat ++ [32] ++ textN d (x.nodes.headD x)
  else [105, 102, 32] ++ x.name ++ [32] ++ textN d (x.nodes.headD x) ++ [32, 101, 108, 115, 101, 32] ++ textN d ((x.nodes.drop 1).headD x)
section
variable {d : Nat} {s : Step} {l : List Node} {c : Int} {y a b : Node} {n : List UInt8}
theorem textN_step : textN (d + 1) ⟨0, s, 0, [], []⟩ = lineS s := by simp [textN]
theorem textN_list : textN (d + 1) ⟨1, ⟨[], 0⟩, 0, [], l⟩ = [123, 32] ++ Lib.join (l.map (textN d)) [59, 32] ++ [32, 125] := by simp [textN]
theorem textN_rep : textN (d + 1) ⟨2, ⟨[], 0⟩, c, [], [y]⟩ = [114, 101, 112, 101, 97, 116, 32] ++ Lib.decDigits c.toNat ++ [32] ++ textN d y := by simp [textN]
theorem textN_cho : textN (d + 1) ⟨3, ⟨[], 0⟩, 0, n, [a, b]⟩ = [105, 102, 32] ++ n ++ [32] ++ textN d a ++ [32, 101, 108, 115, 101, 32] ++ textN d b := by simp [textN]
end
theorem lineS_len {s : Step} (g : GoodS s) : (lineS s).length ≤ 60 := by
 obtain ⟨h1, h2⟩ := words_len g
 have := join_len [32] 7 (words s) h2
 have : (words s).length * (7 + [32].length) ≤ 7 * 8 := Nat.mul_le_mul h1 (by simp)
 unfold lineS
 omega
theorem join_sum (sep : List UInt8) : ∀ l : List (List UInt8), (Lib.join l sep).length ≤ (l.map fun t => t.length + sep.length).sum
 | [] => by rw [Lib.join_nil]; simp
 | x :: r => by
  have : ∀ r : List (List UInt8), (Lib.joinTail sep r).length = (r.map fun t => t.length + sep.length).sum := by
   intro r
   induction r with
   | nil => simp [Lib.joinTail]
   | cons y r ih =>
    unfold Lib.joinTail at ih ⊢
    rw [List.map_cons, List.flatten_cons, List.length_append, List.length_append, ih, List.map_cons, List.sum_cons]
    omega
  rw [Lib.join_cons, List.length_append, this r, List.map_cons, List.sum_cons]
  omega
theorem sum_mul {α : Type} {f g : α → Nat} {m : Nat} {l : List α} (h : ∀ y ∈ l, f y ≤ m * g y) : (l.map f).sum ≤ m * (l.map g).sum := by
 induction l with
 | nil => simp
 | cons a l ih =>
  have h1 := h a (List.mem_cons_self ..)
  have h2 := ih fun y hy => h y (List.mem_cons_of_mem _ hy)
  rw [List.map_cons, List.map_cons, List.sum_cons, List.sum_cons, Nat.mul_add]
  omega
theorem textN_len {d : Nat} {x : Node} (h : Right d x) : (textN d x).length + 2 ≤ 80 * cntT d x := by
 induction h with
 | step d s h => rw [textN_step]; have := lineS_len (chk_zero.1 h); have := cntT_pos (d + 1) ⟨0, s, 0, [], []⟩; omega
 | list d l h hl k ih =>
  rw [textN_list, cntT]
  have h1 := join_sum [59, 32] (l.map (textN d))
  rw [List.map_map] at h1
  have h2 : (l.map ((fun t : List UInt8 => t.length + [(59 : UInt8), 32].length) ∘ textN d)).sum ≤ 80 * (l.map (cntT d)).sum := sum_mul fun y hy => ih y hy
  simp only [List.length_append, List.length_cons, List.length_nil]
  omega
 | rep d c y h0 h1 h ih =>
  have := dec7 (n := c.toNat) (by omega)
  rw [textN_rep, cntT]
  simp only [List.length_append, List.length_cons, List.length_nil, List.map_cons, List.map_nil, List.sum_cons, List.sum_nil]
  omega
 | cho d n a b h ha hb iha ihb =>
  have := word_len h
  rw [textN_cho, cntT]
  simp only [List.length_append, List.length_cons, List.length_nil, List.map_cons, List.map_nil, List.sum_cons, List.sum_nil]
  omega
theorem ltext_loop (m : Motion) (hl : m.prts.length ≤ 1000) (self : Motion → Option (List UInt8)) (f : Motion → List UInt8) (hs : ∀ y ∈ m.prts, self y = some (f y)) (K : List (List UInt8) → Option (List UInt8)) :
 ∀ (r pre : List Motion), m.prts = pre ++ r → program_text_loop1 m self K (r.length + 1) (pre.length : Int) (pre.map f) = K (m.prts.map f)
 | [], pre, e => by rw [program_text_loop1, end_mid e, if_neg (by simp), e, List.append_nil]
 | y :: r, pre, e => by
  obtain ⟨h1, h2, h3, h4, h5⟩ := step_mid e (by omega)
  have ih := ltext_loop m hl self f hs K r (pre ++ [y]) h4
  rw [List.length_cons, program_text_loop1, h1, if_pos rfl, h2, Option.bind_some, hs y (by rw [e]; simp), Option.bind_some, appO_ok (by simp; omega) (by decide), Option.bind_some, h3]
  rw [List.map_append] at ih
  exact ih
theorem ltext_eq : ∀ (d n : Nat) (x : Node), d ≤ n → Right d x → cntT d x ≤ 256 → program_text n (mot d x) = some (textN d x) := by
 intro d n x hn h
 induction h generalizing n with
 | step d s h =>
  intro hc
  obtain ⟨n, rfl⟩ : ∃ k, n = k + 1 := ⟨n - 1, by omega⟩
  rw [mot_step, program_text, program_text_body, joinK, if_pos (by rfl)]
  show (stroke_Format [s]).bind _ = _
  rw [lform_eq, Option.bind_some, formatR, if_neg (by simp), if_neg (by rw [errL, if_neg (by simpa using h), errL]; simp), textN_step]
  show some (Lib.join [lineS s] [59, 32]) = _
  rw [Lib.join_one]
 | list d l h hl k ih =>
  intro hc
  obtain ⟨n, rfl⟩ : ∃ k, n = k + 1 := ⟨n - 1, by omega⟩
  have hsub : ∀ y ∈ l, cntT d y ≤ 256 := fun y hy => by have := cntT_sub (d := d) (x := ⟨1, ⟨[], 0⟩, 0, [], l⟩) hy; omega
  have hlen := textN_len (Right.list d l h hl k)
  rw [textN_list] at hlen
  simp only [List.length_append, List.length_cons, List.length_nil] at hlen
  rw [mot_list, program_text, program_text_body, joinK, if_neg (by simp [Motion.isSingle]), if_pos (by rfl), joinK, fuel0]
  have hs : ∀ m ∈ (Motion.list (l.map (mot d))).prts, program_text n m = some ((fun m => (program_text n m).getD []) m) := fun m hm => by
   obtain ⟨y, hy, rfl⟩ := List.mem_map.1 (show m ∈ l.map (mot d) from hm)
   show program_text n (mot d y) = some ((program_text n (mot d y)).getD [])
   rw [ih y hy n (by omega) (hsub y hy)]
   rfl
  refine (ltext_loop (.list (l.map (mot d))) (by show (l.map (mot d)).length ≤ 1000; rw [List.length_map]; omega) (program_text n) _ hs _ (l.map (mot d)) [] rfl).trans ?_
  have e : ((Motion.list (l.map (mot d))).prts.map fun m => (program_text n m).getD []) = l.map (textN d) := by
   show ((l.map (mot d)).map fun m => (program_text n m).getD []) = _
   rw [List.map_map]
   refine List.map_congr_left fun y hy => ?_
   show (program_text n (mot d y)).getD [] = _
   rw [ih y hy n (by omega) (hsub y hy)]
   rfl
  rw [e, joinS_eq (by rw [List.length_map]; omega) (by omega), Option.bind_some, catO_small (by simp; omega), Option.bind_some, catO_small (by simp; omega), Option.bind_some, textN_list]
 | rep d c y h0 h1 h ih =>
  intro hc
  obtain ⟨n, rfl⟩ : ∃ k, n = k + 1 := ⟨n - 1, by omega⟩
  have hlen := textN_len (Right.rep d c y h0 h1 h)
  have hsub : cntT d y ≤ 256 := by have := cntT_sub (d := d) (x := ⟨2, ⟨[], 0⟩, c, [], [y]⟩) (y := y) (by simp); omega
  rw [textN_rep] at hlen
  simp only [List.length_append, List.length_cons, List.length_nil] at hlen
  rw [mot_rep, program_text, program_text_body, joinK, if_neg (by simp [Motion.isSingle]), if_neg (by simp [Motion.isList]), if_pos (by rfl)]
  show (itoa c).bind (fun r4 => (catO [114, 101, 112, 101, 97, 116, 32] r4).bind fun s3 => (catO s3 [32]).bind fun s4 => (program_text n (mot d y)).bind fun r5 => (catO s4 r5).bind fun s5 => some s5) = _
  rw [itoa_eq (by omega) (by omega), Option.bind_some, decT, catO_small (by simp; omega), Option.bind_some, catO_small (by simp; omega), Option.bind_some, ih n (by omega) hsub, Option.bind_some, catO_small (by simp; omega), Option.bind_some, textN_rep]
 | cho d nm a b h ha hb iha ihb =>
  intro hc
  obtain ⟨n, rfl⟩ : ∃ k, n = k + 1 := ⟨n - 1, by omega⟩
  have hlen := textN_len (Right.cho d nm a b h ha hb)
  have hsa : cntT d a ≤ 256 := by have := cntT_sub (d := d) (x := ⟨3, ⟨[], 0⟩, 0, nm, [a, b]⟩) (y := a) (by simp); omega
  have hsb : cntT d b ≤ 256 := by have := cntT_sub (d := d) (x := ⟨3, ⟨[], 0⟩, 0, nm, [a, b]⟩) (y := b) (by simp); omega
  rw [textN_cho] at hlen
  simp only [List.length_append, List.length_cons, List.length_nil] at hlen
  rw [mot_cho, program_text, program_text_body, joinK, if_neg (by simp [Motion.isSingle]), if_neg (by simp [Motion.isList]), if_neg (by simp [Motion.isRepeat]), if_pos (by rfl)]
  show (catO [105, 102, 32] nm).bind (fun s6 => (catO s6 [32]).bind fun s7 => (program_text n (mot d a)).bind fun r6 => (catO s7 r6).bind fun s8 => (catO s8 [32, 101, 108, 115, 101, 32]).bind fun s9 => (program_text n (mot d b)).bind fun r7 => (catO s9 r7).bind fun s10 => some s10) = _
  rw [catO_small (by simp; omega), Option.bind_some, catO_small (by simp; omega), Option.bind_some, iha n (by omega) hsa, Option.bind_some, catO_small (by simp; omega), Option.bind_some, catO_small (by simp; omega), Option.bind_some, ihb n (by omega) hsb, Option.bind_some, catO_small (by simp; omega), Option.bind_some, textN_cho]
def fmtN (x : Node) : List UInt8 × Int := if (textN 16 x).length > 4096 then ([], 17) else (textN 16 x, 0)
section
variable (x : Node) (g : GoodN x) (hN : lightB x = true → NamOk x)
include g hN
theorem lFormat_eq : program_Format x = some (ifOk x [] (fmtN x)) := by
 rw [program_Format, lcheckN_eq x g hN, Option.bind_some]
 refine ok_of x g hN (fun h hc => ?_) _ rfl
 rw [of_eq 16 600 x (by omega) h, Option.bind_some, ltext_eq 16 600 x (by omega) h hc, Option.bind_some, fmtN]
 by_cases hl : (textN 16 x).length > 4096
 · rw [if_pos (by rw [decide_eq_true_eq]; omega), if_pos hl]
 · rw [if_neg (by rw [decide_eq_true_eq]; omega), if_neg hl]
end
abbrev Txt := List UInt8
def namesN : Nat → Node → List Txt
 | 0, x => if x.kind = 3 then [x.name] else []
 | d + 1, x => (if x.kind = 3 then [x.name] else []) ++ x.nodes.flatMap (namesN d)
section
variable (x : Node) (g : GoodN x) (hN : lightB x = true → NamOk x)
include g hN
end
section
variable (x : Node) (g : GoodN x) (hN : lightB x = true → NamOk x)
include g hN
end
theorem right15_eq (x : Node) (on : List Txt) (g : GoodN x) (hl : on.length ≤ maxLen) : ∃ b, law15_right x on = some b ∧ (b = true → Right 16 x ∧ cntT 16 x ≤ 30 ∧ checkN x = 0 ∧ NamOk x ∧ StrOk x ∧ on.length ≤ 20) := by
 obtain ⟨b, h1, h2⟩ := law_few x on g hl
 rw [law15_right, h1, Option.bind_some]
 cases b with
 | false => exact ⟨false, rfl, fun h => by cases h⟩
 | true =>
  obtain ⟨h3, h4, _⟩ := h2 rfl
  rw [if_pos rfl, rcheckN_eq x g (fun q => (h3 q).1.nam), Option.bind_some, Option.bind_some]
  refine ⟨_, rfl, fun h => ?_⟩
  have hc : checkN x = 0 := by simpa using h
  have hr := check_right.1 hc
  have hq := h3 (light_iff.2 ⟨hr.2, right_deep hr.1⟩)
  exact ⟨hr.1, hq.2, hc, hq.1.nam, hq.1.str g, h4⟩
def nf : Nat → Node → Prop
 | 0, _ => True
 | d + 1, x => (x.kind = 1 → x.nodes.length ≠ 1 ∧ ∀ y ∈ x.nodes, y.kind ≠ 1) ∧ (x.kind = 2 → x.count ≠ 1) ∧ ∀ y ∈ x.nodes, nf d y
section
variable {d : Nat} {s : Step} {l : List Node} {c : Int} {y a b : Node} {n : List UInt8}
end
structure PartsOk (d : Nat) (z : Node) (L : List Node) : Prop where
 right : ∀ w ∈ L, Right d w
 cnt : (L.map (cntT d)).sum ≤ cntT d z
 steps : ∀ on, L.flatMap (stepsN on d) = stepsN on d z
 names : ∀ s, (∃ w ∈ L, s ∈ namesN d w) ↔ s ∈ namesN d z
 nfs : nf d z → ∀ w ∈ L, nf d w ∧ w.kind ≠ 1
 ne : L ≠ []
 mots : L.map (mot d) = if (mot d z).isList = true then (mot d z).prts else [mot d z]
structure PlainOk (d : Nat) (x z : Node) : Prop where
 right : Right d z
 cnt : cntT d z ≤ cntT d x
 nfs : nf d z
 steps : ∀ on, stepsN on d z = stepsN on d x
 names : ∀ s, s ∈ namesN d z ↔ s ∈ namesN d x
section
variable (x : Node) (g : GoodN x) (hN : lightB x = true → NamOk x)
include g hN
end
def FineK (k : Int) (s : Txt) : Prop := (k = 0 ∧ word s = 0) ∨ (k = 1 ∧ num s = 0) ∨ (k = 2 ∧ ∃ c, s = [c] ∧ signB c = true)
theorem FineK.len {k : Int} {s : Txt} (h : FineK k s) : s.length ≤ 24 := by
 rcases h with ⟨_, h⟩ | ⟨_, h⟩ | ⟨_, c, h, _⟩
 · exact word_len h
 · have := (num_zero.1 h).2.2.2; omega
 · rw [h]; simp
structure TokOk (T : List Token) : Prop where
 len : T.length ≤ 5000
 fine : ∃ ts e, T = ts ++ [e] ∧ e.kind = 3 ∧ e.text = [] ∧ ∀ t ∈ ts, FineK t.kind t.text
theorem TokOk.kind {T : List Token} (w : TokOk T) : ∀ t ∈ T, t.text.length ≤ 24 ∧ (t.kind = 1 → num t.text = 0) := by
 obtain ⟨ts, e, rfl, h1, h2, h3⟩ := w.fine
 intro t ht
 rcases List.mem_append.1 ht with ht | ht
 · have := h3 t ht
   refine ⟨this.len, fun hk => ?_⟩
   rcases this with ⟨h, _⟩ | ⟨_, h⟩ | ⟨h, _⟩
   · omega
   · exact h
   · omega
 · rw [List.mem_singleton.1 ht]
   exact ⟨by rw [h2]; simp, fun hk => by omega⟩
theorem TokOk.last {T : List Token} (w : TokOk T) {i : Nat} {t : Token} (h : T[i]? = some t) (hk : t.kind ≠ 3) : i + 1 < T.length := by
 obtain ⟨ts, e, rfl, h1, h2, h3⟩ := w.fine
 have hi : i < (ts ++ [e]).length := (List.getElem?_eq_some_iff.1 h).1
 by_cases hl : i = ts.length
 · subst hl
   rw [List.getElem?_append_right (Nat.le_refl _), Nat.sub_self] at h
   cases h
   exact absurd h1 hk
 · simp at hi ⊢
   omega
theorem at?_nat {α : Type} {l : List α} {i : Nat} : at? l (i : Int) = l[i]? := by
 unfold at?
 rw [if_pos (by omega), Int.toNat_natCast]
section
variable (T : List Token)
end
theorem indexS_ok (s : Txt) : indexS [65, 66, 67, 68, 69, 70] s = some (Lib.index [65, 66, 67, 68, 69, 70] s) := if_pos (by decide)
inductive SmallN : Node → Prop
 | mk (x : Node) (h1 : x.step.strokes.length ≤ 100000) (h2 : x.name.length ≤ 100000) (h3 : x.nodes.length ≤ 100000) (k : ∀ y ∈ x.nodes, SmallN y) : SmallN x
theorem SmallN.good {x : Node} (h : SmallN x) : GoodN x := by
 induction h with
 | mk x h1 h2 h3 k ih => exact .mk x (by rw [maxLen_eq]; omega) (by rw [maxLen_eq]; omega) (by rw [maxLen_eq]; omega) ih
theorem SmallN.nam {x : Node} (h : SmallN x) : NamOk x := by
 induction h with
 | mk x h1 h2 h3 k ih => exact .mk x h2 ih
theorem rSame_refl {x : Node} (h : Right 16 x) (hc : cntT 16 x ≤ 256) : ref15_Same x x = some true := by
 rw [rSame_eq x x (right_good h) (right_good h) fun _ => right_str h, sameN_refl h hc]
abbrev KT : Type := Int × Txt
def kt (t : Token) : KT := (t.kind, t.text)
def Stop (s : Txt) : Prop := s = [] ∨ ∃ c Z, s = c :: Z ∧ inner c = false ∧ isD c = false
inductive Sp : Txt → List KT → Prop
 | nil : Sp [] []
 | blank (b : UInt8) (s : Txt) (ts : List KT) (hb : blank b = true) (h : Sp s ts) : Sp (b :: s) ts
 | tok (k : Int) (t s : Txt) (ts : List KT) (hf : FineK k t) (h : Sp s ts) (hs : k ≠ 2 → Stop s) : Sp (t ++ s) ((k, t) :: ts)
theorem stop_blank (s : Txt) : Stop (32 :: s) := .inr ⟨32, s, rfl, by decide, by decide⟩
theorem word_in {s : List UInt8} (h : word s = 0) : ∃ b r, s = b :: r ∧ letter b = true ∧ (b :: r).all inner = true := by
 cases s with
 | nil => cases h
 | cons b r =>
  rw [word_cons] at h
  split at h
  · cases h
  · rename_i h1
    split at h
    · cases h
    · rename_i h2
      exact ⟨b, r, rfl, by simpa using h1, by simpa using h2⟩
theorem takeWhile_stop {p : UInt8 → Bool} : ∀ (s Y : List UInt8), s.all p = true → (Y = [] ∨ ∃ c Z, Y = c :: Z ∧ p c = false) → (s ++ Y).takeWhile p = s
 | [], Y, _, h => by
  rcases h with rfl | ⟨c, Z, rfl, hc⟩
  · rfl
  · rw [List.nil_append, List.takeWhile_cons, hc]; simp
 | b :: r, Y, hs, h => by
  rw [List.all_cons, Bool.and_eq_true] at hs
  rw [List.cons_append, List.takeWhile_cons, if_pos hs.1, takeWhile_stop r Y hs.2 h]
theorem sign_all : ((List.range 256).all fun n => !(signB n.toUInt8) || (!(letter n.toUInt8) && !(isD n.toUInt8) && !(inner n.toUInt8) && !(blank n.toUInt8))) = true := by kernel_rfl
theorem signB_cls {c : UInt8} (h : signB c = true) : letter c = false ∧ isD c = false ∧ inner c = false ∧ blank c = false := by
 have := List.all_eq_true.1 sign_all c.toNat (List.mem_range.2 (UInt8.toNat_lt c))
 have e : c.toNat.toUInt8 = c := by simp
 rw [e, h] at this
 simpa [and_assoc] using this
theorem inner_blankAll : ((List.range 256).all fun n => (!(inner n.toUInt8) || !(blank n.toUInt8)) && (!(isD n.toUInt8) || !(blank n.toUInt8))) = true := by kernel_rfl
theorem inner_blank {c : UInt8} : (inner c = true → blank c = false) ∧ (isD c = true → blank c = false) := by
 have := List.all_eq_true.1 inner_blankAll c.toNat (List.mem_range.2 (UInt8.toNat_lt c))
 have e : c.toNat.toUInt8 = c := by simp
 rw [e, Bool.and_eq_true] at this
 refine ⟨fun h => ?_, fun h => ?_⟩
 · have h1 := this.1
   rw [h] at h1
   simpa using h1
 · have h1 := this.2
   rw [h] at h1
   simpa using h1
theorem tk_of {k : Int} {t s : Txt} (hf : FineK k t) (hs : k ≠ 2 → Stop s) : ∃ b w, t = b :: w ∧ blank b = false ∧ tk (t ++ s) = (k, t.length, 0) := by
 rcases hf with ⟨hk, hw⟩ | ⟨hk, hw⟩ | ⟨hk, c, ht, hc⟩
 · obtain ⟨b, w, e, hl, ha⟩ := word_in hw
   refine ⟨b, w, e, inner_blank.1 (letter_inner hl), ?_⟩
   have ht : (t ++ s).takeWhile inner = t := by
    refine takeWhile_stop _ _ (by rw [e]; exact ha) ?_
    rcases hs (by omega) with hh | ⟨c, Z, hh, hc, _⟩
    · exact .inl hh
    · exact .inr ⟨c, Z, hh, hc⟩
   rw [e] at ht ⊢
   rw [List.cons_append] at ht ⊢
   unfold tk
   dsimp only
   rw [if_pos hl, ht, ← e, hw, hk]
 · obtain ⟨h1, h2, h3, h4⟩ := num_zero.1 hw
   obtain ⟨b, w, e⟩ : ∃ b w, t = b :: w := by
    cases ht : t with
    | nil => exact absurd ht h1
    | cons b w => exact ⟨b, w, rfl⟩
   have hd : isD b = true := h2 b (by rw [e]; simp)
   refine ⟨b, w, e, inner_blank.2 hd, ?_⟩
   have ht : (t ++ s).takeWhile isD = t := by
    refine takeWhile_stop _ _ (List.all_eq_true.2 h2) ?_
    rcases hs (by omega) with hh | ⟨c, Z, hh, _, hc⟩
    · exact .inl hh
    · exact .inr ⟨c, Z, hh, hc⟩
   rw [e] at ht ⊢
   rw [List.cons_append] at ht ⊢
   unfold tk
   dsimp only
   rw [if_neg (by rw [letter_isD hd]; simp), if_pos hd, ht, ← e, hw, hk]
 · obtain ⟨q1, q2, q3, q4⟩ := signB_cls hc
   refine ⟨c, [], ht, q4, ?_⟩
   rw [ht, List.cons_append]
   unfold tk
   dsimp only
   rw [if_neg (by rw [q1]; simp), if_neg (by rw [q2]; simp), if_pos hc, hk]
   rfl
theorem sp_scan {s : Txt} {ts : List KT} (h : Sp s ts) : ∀ (n p : Nat), s.length ≤ n → ∃ ts', scanS n s p = (ts', none) ∧ ts'.map kt = ts := by
 induction h with
 | nil => intro n p hn; exact ⟨[], by cases n <;> rfl, rfl⟩
 | blank b s ts hb h ih =>
  intro n p hn
  cases n with
  | zero => simp at hn
  | succ n =>
   obtain ⟨ts', h1, h2⟩ := ih n (p + 1) (by simpa using hn)
   exact ⟨ts', by rw [scanS, if_pos hb, h1], h2⟩
 | tok k t s ts hf h hs ih =>
  intro n p hn
  obtain ⟨b, w, e, hb, hk⟩ := tk_of hf hs
  cases n with
  | zero => rw [e] at hn; simp at hn
  | succ n =>
   have hlen : 1 ≤ t.length := by rw [e]; simp
   obtain ⟨ts', h1, h2⟩ := ih n (p + t.length) (by rw [List.length_append] at hn; omega)
   refine ⟨⟨k, t, (p : Int)⟩ :: ts', ?_, by rw [List.map_cons, h2]; rfl⟩
   have hd : (t ++ s).drop t.length = s := List.drop_left ..
   have htk : (t ++ s).take t.length = t := List.take_left ..
   have e2 : t ++ s = b :: (w ++ s) := by rw [e]; rfl
   rw [e2] at hk hd htk ⊢
   rw [scanS, if_neg (by rw [hb]; simp), hk]
   dsimp only
   rw [if_neg (by simp), hd, htk, h1]
def strokeK (y : Stroke) : List KT := [(0, [UInt8.ofNat (65 + y.actuator.toNat)]), (2, [if y.out = true then 43 else 45])]
def stepK (x : Step) : List KT := x.strokes.flatMap strokeK ++ if x.wait > 0 then [(1, decT x.wait)] else []
def semi (t : List KT) : List KT := (2, [59]) :: t
def sepK : List (List KT) → List KT
 | [] => []
 | a :: r => a ++ r.flatMap semi
def repT : Txt := [114, 101, 112, 101, 97, 116]
def ifT : Txt := [105, 102]
def elseT : Txt := [101, 108, 115, 101]
def toksN : Nat → Node → List KT
 | 0, _ => []
 | d + 1, x => if x.kind = 0 then stepK x.step else if x.kind = 1 then (2, [123]) :: (sepK (x.nodes.map (toksN d)) ++ [(2, [125])])
  else if x.kind = 2 then (0, repT) :: (1, Lib.decDigits x.count.toNat) :: toksN d (x.nodes.headD x)
  else (0, ifT) :: (0, x.name) :: (toksN d (x.nodes.headD x) ++ (0, elseT) :: toksN d ((x.nodes.drop 1).headD x))
section
variable {d : Nat} {s : Step} {l : List Node} {c : Int} {y a b : Node} {n : List UInt8}
theorem toksN_step : toksN (d + 1) ⟨0, s, 0, [], []⟩ = stepK s := by simp [toksN]
theorem toksN_list : toksN (d + 1) ⟨1, ⟨[], 0⟩, 0, [], l⟩ = (2, [123]) :: (sepK (l.map (toksN d)) ++ [(2, [125])]) := by simp [toksN]
theorem toksN_rep : toksN (d + 1) ⟨2, ⟨[], 0⟩, c, [], [y]⟩ = (0, repT) :: (1, Lib.decDigits c.toNat) :: toksN d y := by simp [toksN]
theorem toksN_cho : toksN (d + 1) ⟨3, ⟨[], 0⟩, 0, n, [a, b]⟩ = (0, ifT) :: (0, n) :: (toksN d a ++ (0, elseT) :: toksN d b) := by simp [toksN]
end
def Sps (t : Txt) (ts : List KT) : Prop := ∀ Y us, Sp Y us → Stop Y → Sp (t ++ Y) (ts ++ us)
theorem sps_sp {l : List (Txt × List KT)} (h : ∀ q ∈ l, Sps q.1 q.2) : Sps (Lib.join (l.map (·.1)) [32]) (l.map (·.2)).flatten := by
 induction l with
 | nil => intro Y us hY _; exact hY
 | cons q r ih =>
  intro Y us hY hS
  have ih := ih fun z hz => h z (List.mem_cons_of_mem _ hz)
  rw [List.map_cons, List.map_cons, Lib.join_cons, List.flatten_cons, List.append_assoc, List.append_assoc]
  refine h q (List.mem_cons_self ..) _ _ ?_ ?_
  · cases r with
    | nil => exact hY
    | cons q2 r2 =>
     have h2 := ih Y us hY hS
     rw [List.map_cons, List.map_cons, Lib.join_cons, List.append_assoc] at h2
     have e : Lib.joinTail [32] (q2.1 :: r2.map (·.1)) ++ Y = 32 :: (q2.1 ++ (Lib.joinTail [32] (r2.map (·.1)) ++ Y)) := by
      simp [Lib.joinTail]
     show Sp (Lib.joinTail [32] (q2.1 :: r2.map (·.1)) ++ Y) _
     rw [e]
     exact .blank 32 _ _ (by decide) h2
  · cases r with
    | nil => exact hS
    | cons q2 r2 =>
     have e : Lib.joinTail [32] (q2.1 :: r2.map (·.1)) ++ Y = 32 :: (q2.1 ++ (Lib.joinTail [32] (r2.map (·.1)) ++ Y)) := by
      simp [Lib.joinTail]
     show Stop (Lib.joinTail [32] (q2.1 :: r2.map (·.1)) ++ Y)
     rw [e]
     exact stop_blank _
theorem sps_list {f : Node → Txt} {g : Node → List KT} : ∀ {l : List Node}, (∀ q ∈ l, Sps (f q) (g q)) → Sps (Lib.join (l.map f) [59, 32]) (sepK (l.map g)) := by
 intro l h
 cases l with
 | nil => intro Y us hY _; exact hY
 | cons q r =>
  intro Y us hY hS
  rw [List.map_cons, List.map_cons, Lib.join_cons, sepK, List.append_assoc, List.append_assoc]
  have key : ∀ r : List Node, (∀ q ∈ r, Sps (f q) (g q)) → Sp (Lib.joinTail [59, 32] (r.map f) ++ Y) ((r.map g).flatMap semi ++ us) ∧ Stop (Lib.joinTail [59, 32] (r.map f) ++ Y) := by
   intro r
   induction r with
   | nil => intro _; exact ⟨hY, hS⟩
   | cons z r ih =>
    intro hr
    obtain ⟨i1, i2⟩ := ih fun w hw => hr w (List.mem_cons_of_mem _ hw)
    have e : Lib.joinTail [59, 32] ((z :: r).map f) ++ Y = 59 :: 32 :: (f z ++ (Lib.joinTail [59, 32] (r.map f) ++ Y)) := by
     simp [Lib.joinTail]
    have e2 : ((z :: r).map g).flatMap semi ++ us = ((2, [59]) : KT) :: (g z ++ ((r.map g).flatMap semi ++ us)) := by
     simp [semi]
    rw [e, e2]
    refine ⟨.tok 2 [59] _ _ (.inr (.inr ⟨rfl, 59, rfl, by decide⟩)) (.blank 32 _ _ (by decide) (hr z (List.mem_cons_self ..) _ _ i1 i2)) (fun q => absurd rfl q), .inr ⟨59, _, rfl, by decide, by decide⟩⟩
  obtain ⟨k1, k2⟩ := key r fun w hw => h w (List.mem_cons_of_mem _ hw)
  exact h q (List.mem_cons_self ..) _ _ k1 k2
theorem letter_at : ∀ a : Fin 6, word [UInt8.ofNat (65 + a.val)] = 0 ∧ Lib.index [65, 66, 67, 68, 69, 70] [UInt8.ofNat (65 + a.val)] = (a.val : Int) := by decide +kernel
theorem wr_sps {y : Stroke} (h0 : 0 ≤ y.actuator) (h1 : y.actuator < 6) : Sps (wr y) (strokeK y) := by
 intro Y us hY hS
 obtain ⟨a, ha, hb⟩ := act_fin h0 h1
 have hw := (letter_at a).1
 unfold wr strokeK
 rw [hb]
 have sg : signB (if y.out = true then 43 else 45) = true := by split <;> decide
 refine .tok 0 [_] _ _ (.inl ⟨rfl, hw⟩) (.tok 2 [_] _ _ (.inr (.inr ⟨rfl, _, rfl, sg⟩)) hY (fun q => absurd rfl q)) (fun _ => ?_)
 obtain ⟨_, q2, q3, _⟩ := signB_cls sg
 exact .inr ⟨_, _, rfl, q3, q2⟩
theorem num_sps {n : Nat} (h : n ≤ 9999999) : Sps (Lib.decDigits n) [(1, Lib.decDigits n)] := fun Y us hY hS => .tok 1 _ _ _ (.inr (.inl ⟨rfl, num_dec h⟩)) hY (fun _ => hS)
theorem line_sps {x : Step} (g : GoodS x) : Sps (lineS x) (stepK x) := by
 have e1 : words x = ((x.strokes.map fun y => (wr y, strokeK y)) ++ (if x.wait > 0 then [(decT x.wait, [((1 : Int), decT x.wait)])] else [])).map (·.1) := by
  unfold words
  rw [List.map_append, List.map_map]
  congr 1
  split <;> rfl
 have e2 : stepK x = (((x.strokes.map fun y => (wr y, strokeK y)) ++ (if x.wait > 0 then [(decT x.wait, [((1 : Int), decT x.wait)])] else [])).map (·.2)).flatten := by
  unfold stepK
  rw [List.map_append, List.map_map, List.flatten_append, List.flatMap]
  congr 1
  split <;> rfl
 unfold lineS
 rw [e1, e2]
 refine sps_sp fun q hq => ?_
 rcases List.mem_append.1 hq with hq | hq
 · obtain ⟨y, hy, rfl⟩ := List.mem_map.1 hq
   obtain ⟨a, b, _⟩ := asc_mem g.asc y hy
   exact wr_sps a b
 · split at hq
   · rw [List.mem_singleton.1 hq]
     have := g.w1
     exact num_sps (by omega)
   · cases hq
theorem text_sps {d : Nat} {x : Node} (h : Right d x) : Sps (textN d x) (toksN d x) := by
 induction h with
 | step d s h => rw [textN_step, toksN_step]; exact line_sps (chk_zero.1 h)
 | list d l h hl k ih =>
  intro Y us hY hS
  rw [textN_list, toksN_list]
  have e : [123, 32] ++ Lib.join (l.map (textN d)) [59, 32] ++ [32, 125] ++ Y = [123] ++ (32 :: (Lib.join (l.map (textN d)) [59, 32] ++ (32 :: ([125] ++ Y)))) := by simp
  have e3 : ((2, [123]) :: (sepK (l.map (toksN d)) ++ [(2, [125])])) ++ us = ((2, [123]) : KT) :: (sepK (l.map (toksN d)) ++ (((2, [125]) : KT) :: us)) := by simp
  rw [e, e3]
  exact .tok 2 [123] _ _ (.inr (.inr ⟨rfl, 123, rfl, by decide⟩)) (.blank 32 _ _ (by decide) (sps_list ih _ _ (.blank 32 _ _ (by decide) (.tok 2 [125] _ _ (.inr (.inr ⟨rfl, 125, rfl, by decide⟩)) hY (fun q => absurd rfl q))) (stop_blank _))) (fun q => absurd rfl q)
 | rep d c y h0 h1 h ih =>
  intro Y us hY hS
  rw [textN_rep, toksN_rep]
  have e : [114, 101, 112, 101, 97, 116, 32] ++ Lib.decDigits c.toNat ++ [32] ++ textN d y ++ Y = repT ++ (32 :: (Lib.decDigits c.toNat ++ (32 :: (textN d y ++ Y)))) := by simp [repT]
  rw [e]
  exact .tok 0 repT _ _ (.inl ⟨rfl, by decide⟩) (.blank 32 _ _ (by decide) (num_sps (by omega) _ _ (.blank 32 _ _ (by decide) (ih Y us hY hS)) (stop_blank _))) (fun _ => stop_blank _)
 | cho d n a b h ha hb iha ihb =>
  intro Y us hY hS
  rw [textN_cho, toksN_cho]
  have e : [105, 102, 32] ++ n ++ [32] ++ textN d a ++ [32, 101, 108, 115, 101, 32] ++ textN d b ++ Y = ifT ++ (32 :: (n ++ (32 :: (textN d a ++ (32 :: (elseT ++ (32 :: (textN d b ++ Y)))))))) := by simp [ifT, elseT]
  rw [e, List.cons_append, List.cons_append, List.append_assoc, List.cons_append]
  exact .tok 0 ifT _ _ (.inl ⟨rfl, by decide⟩) (.blank 32 _ _ (by decide) (.tok 0 n _ _ (.inl ⟨rfl, h⟩) (.blank 32 _ _ (by decide) (iha _ _ (.blank 32 _ _ (by decide) (.tok 0 elseT _ _ (.inl ⟨rfl, by decide⟩) (.blank 32 _ _ (by decide) (ihb Y us hY hS)) (fun _ => stop_blank _))) (stop_blank _))) (fun _ => stop_blank _))) (fun _ => stop_blank _)
def AtK (T : List Token) (i : Nat) (L : List KT) : Prop := (T.map kt).drop i = L
theorem AtK.cons {T : List Token} {i : Nat} {k : Int} {s : Txt} {L : List KT} (h : AtK T i ((k, s) :: L)) : ∃ t, at? T (i : Int) = some t ∧ t.kind = k ∧ t.text = s ∧ AtK T (i + 1) L := by
 unfold AtK at h ⊢
 have h1 : (T.map kt)[i]? = some (k, s) := by
  have := congrArg List.head? h
  rwa [List.head?_drop, List.head?_cons] at this
 rw [List.getElem?_map] at h1
 cases hx : T[i]? with
 | none => rw [hx] at h1; cases h1
 | some t =>
  rw [hx] at h1
  have h2 : kt t = (k, s) := Option.some.inj h1
  refine ⟨t, by rw [at?_nat, hx], congrArg Prod.fst h2, congrArg Prod.snd h2, ?_⟩
  rw [show i + 1 = 1 + i by omega, ← List.drop_drop] at *
  rw [List.drop_drop, Nat.add_comm, ← List.drop_drop, h]
  rfl
theorem AtK.add {T : List Token} {i : Nat} {K L : List KT} (h : AtK T i (K ++ L)) : AtK T (i + K.length) L := by
 unfold AtK at h ⊢
 rw [← List.drop_drop, h, List.drop_left]
theorem AtK.lt {T : List Token} {i : Nat} {L : List KT} (h : AtK T i L) (hl : L ≠ []) : i + L.length = T.length := by
 unfold AtK at h
 have := congrArg List.length h
 have hp := List.length_pos_iff.2 hl
 rw [List.length_drop, List.length_map] at this
 omega
section
variable {T : List Token} (hT : T.length ≤ 5000) {i : Nat} {k' : Int} {s' : Txt} {L : List KT} (h : AtK T i ((k', s') :: L))
include hT h
theorem takes_no {k : Int} {s : Txt} (q : k' ≠ k ∨ (s ≠ [] ∧ s' ≠ s)) : program_reader_takes ⟨T, (i : Int), false⟩ k s = some (false, (i : Int), false) := by
 obtain ⟨t, h1, h2, h3, h4⟩ := h.cons
 unfold program_reader_takes
 dsimp only
 rw [h1, Option.bind_some, h2, h3, if_pos]
 rcases q with q | ⟨q1, q2⟩
 · simp [q]
 · simp [q1, q2]
theorem takes_yes {k : Int} {s : Txt} (q : k' = k) (q2 : s = [] ∨ s' = s) : program_reader_takes ⟨T, (i : Int), false⟩ k s = some (true, ((i + 1 : Nat) : Int), false) := by
 obtain ⟨t, h1, h2, h3, h4⟩ := h.cons
 have := h.lt (by simp)
 unfold program_reader_takes
 dsimp only
 rw [h1, Option.bind_some, h2, h3, if_neg, wrap64 (by omega) (by omega)]
 · rfl
 · rcases q2 with q2 | q2 <;> simp [q, q2]
theorem needs_yes {k : Int} {s : Txt} (q : k' = k) (q2 : s = [] ∨ s' = s) : program_reader_needs ⟨T, (i : Int), false⟩ k s = some (s', ((i + 1 : Nat) : Int), false) := by
 obtain ⟨t, h1, h2, h3, h4⟩ := h.cons
 unfold program_reader_needs
 dsimp only
 rw [h1, Option.bind_some, takes_yes hT h q q2, Option.bind_some, if_neg (by simp), h3]
end
def Ends (L : List KT) : Prop := ∃ k s r, L = (k, s) :: r ∧ k ≠ 1 ∧ (k = 0 → s.length ≠ 1)
theorem stepL_at {T : List Token} (hT : T.length ≤ 5000) (p : Int) (b : Bool) (K : Int → Bool → List Stroke → Option (Node × Int × Bool)) (M : List KT) (hM : ∃ k s r, M = (k, s) :: r ∧ (k = 0 → s.length ≠ 1)) : ∀ (r : List Stroke) (m i : Nat) (l : List Stroke), (∀ y ∈ r, 0 ≤ y.actuator ∧ y.actuator < 6) → r.length + 1 ≤ m → l.length + r.length ≤ 1000 → AtK T i (r.flatMap strokeK ++ M) →
 program_reader_step_loop1 ⟨T, p, b⟩ K m (i : Int) false l = K ((i + (r.flatMap strokeK).length : Nat) : Int) (((l ++ r).length : Int) == 0) (l ++ r)
 | [], 0, i, l, _, hm, _, _ => by simp at hm
 | [], m + 1, i, l, _, _, _, h => by
  obtain ⟨k, s, r, rfl, hk⟩ := hM
  obtain ⟨t, h1, h2, h3, h4⟩ := AtK.cons (show AtK T i ((k, s) :: r) from h)
  rw [program_reader_step_loop1, if_pos (by rfl)]
  dsimp only
  rw [h1, Option.bind_some, indexS_ok, Option.bind_some, if_pos, List.append_nil]
  · rfl
  · rw [h2, h3]
    by_cases h0 : k = 0
    · have := hk h0
      have : ((s.length : Int) != 1) = true := by rw [bne_iff_ne]; omega
      rw [this]
      simp
    · have : (k != 0) = true := by simpa using h0
      rw [this]
      rfl
 | y :: r, 0, i, l, _, hm, _, _ => by simp at hm
 | y :: r, m + 1, i, l, hy, hm, hl, h => by
  have h' : AtK T i ((0, [UInt8.ofNat (65 + y.actuator.toNat)]) :: (2, [if y.out = true then 43 else 45]) :: (r.flatMap strokeK ++ M)) := by simpa [strokeK] using h
  obtain ⟨t, h1, h2, h3, h4⟩ := h'.cons
  obtain ⟨y0, y1⟩ := hy y (List.mem_cons_self ..)
  obtain ⟨a, ha, hb⟩ := act_fin y0 y1
  have hi := (letter_at a).2
  have hlt := h'.lt (by simp)
  obtain ⟨_, _, _, _, h5⟩ := h4.cons
  have ap : ∀ z : Stroke, appO 16 l [z] = some (l ++ [z]) := fun z => appO_ok (by simp; simp at hl; omega) (by decide)
  have ih := stepL_at hT p b K M hM r m (i + 1 + 1) (l ++ [y]) (fun z hz => hy z (List.mem_cons_of_mem _ hz)) (by simp at hm; omega) (by simp at hl ⊢; omega) h5
  have e : l ++ [y] ++ r = l ++ y :: r := by simp
  have e2 : i + 1 + 1 + (r.flatMap strokeK).length = i + ((y :: r).flatMap strokeK).length := by simp [strokeK]; omega
  rw [e, e2] at ih
  rw [program_reader_step_loop1, if_pos (by rfl)]
  dsimp only
  rw [h1, Option.bind_some, indexS_ok, Option.bind_some, h2, h3, hb, hi, if_neg (by simp), wrap64 (by omega) (by omega), show (i : Int) + 1 = ((i + 1 : Nat) : Int) by omega]
  obtain ⟨ya, yo⟩ := y
  dsimp only at ha ih h4
  cases yo with
  | true =>
   rw [takes_yes hT (show AtK T (i + 1) ((2, [43]) :: (r.flatMap strokeK ++ M)) from h4) rfl (.inr rfl), Option.bind_some, joinK, if_neg (by simp), ap]
   dsimp only
   rw [Option.bind_some, ← ha]
   exact ih
  | false =>
   have h4 : AtK T (i + 1) ((2, [45]) :: (r.flatMap strokeK ++ M)) := h4
   rw [takes_no hT h4 (.inr ⟨by simp, by decide⟩), Option.bind_some, joinK, if_pos (by rfl), needs_yes hT h4 rfl (.inr rfl), Option.bind_some, ap]
   dsimp only
   rw [Option.bind_some, ← ha]
   exact ih
theorem step_at {T : List Token} (hT : T.length ≤ 5000) {x : Step} (g : GoodS x) {i : Nat} {L : List KT} (hL : Ends L) (h : AtK T i (stepK x ++ L)) : program_reader_step ⟨T, (i : Int), false⟩ = some (⟨0, x, 0, [], []⟩, ((i + (stepK x).length : Nat) : Int), false) := by
 obtain ⟨k, s, r, rfl, hk1, hk0⟩ := hL
 have hf := g.few
 have hne : ((x.strokes.length : Int) == 0) = false := by
  have := List.length_pos_iff.2 g.ne
  rw [beq_eq_false_iff_ne]
  omega
 have hlt := h.lt (by simp)
 rw [program_reader_step, joinK]
 dsimp only
 have w0 := g.w0
 have w1 := g.w1
 have h' : AtK T i (x.strokes.flatMap strokeK ++ ((if x.wait > 0 then [((1 : Int), decT x.wait)] else []) ++ (k, s) :: r)) := by
  have := h
  unfold stepK at this
  rwa [List.append_assoc] at this
 have hM : ∃ k' s' r', ((if x.wait > 0 then [((1 : Int), decT x.wait)] else []) ++ (k, s) :: r : List KT) = (k', s') :: r' ∧ (k' = 0 → s'.length ≠ 1) := by
  by_cases hw : x.wait > 0
  · rw [if_pos hw]; exact ⟨_, _, _, rfl, fun q => by cases q⟩
  · rw [if_neg hw]; exact ⟨_, _, _, rfl, hk0⟩
 rw [stepL_at hT (i : Int) false _ _ hM x.strokes (T.length + 2) i [] (fun y hy => ⟨(asc_mem g.asc y hy).1, (asc_mem g.asc y hy).2.1⟩) (by
  have : x.strokes.length ≤ (x.strokes.flatMap strokeK).length := by
   rw [List.length_flatMap]
   exact len_sum fun y _ => by simp [strokeK]
  unfold stepK at hlt
  simp only [List.length_append] at hlt
  omega) (by simp; omega) h', joinK, List.nil_append, hne]
 have h2 := h'.add
 by_cases hw : x.wait > 0
 · rw [if_pos hw] at h2
   obtain ⟨t, a1, a2, a3, a4⟩ := AtK.cons (show AtK T _ ((1, decT x.wait) :: (k, s) :: r) from h2)
   rw [a1, Option.bind_some, takes_yes hT (show AtK T _ ((1, decT x.wait) :: (k, s) :: r) from h2) rfl (.inl rfl), Option.bind_some, if_pos rfl, a3]
   have hv : program_value (decT x.wait) = some x.wait := by
    unfold program_value decT
    rw [lval_eq _ (by have := dec7 (n := x.wait.toNat) (by omega); omega), valS_dec (by omega), Option.bind_some]
    congr 1
    dsimp only
    omega
   rw [hv, Option.bind_some]
   have e : i + (stepK x).length = i + (x.strokes.flatMap strokeK).length + 1 := by unfold stepK; rw [if_pos hw]; simp; omega
   rw [e]
 · rw [if_neg hw] at h2
   obtain ⟨t, a1, a2, a3, a4⟩ := AtK.cons (show AtK T _ ((k, s) :: r) from h2)
   rw [a1, Option.bind_some, takes_no hT (show AtK T _ ((k, s) :: r) from h2) (.inl hk1), Option.bind_some, if_neg (by simp)]
   have e : i + (stepK x).length = i + (x.strokes.flatMap strokeK).length := by unfold stepK; rw [if_neg hw]; simp
   have e2 : x = ⟨x.strokes, 0⟩ := by
    obtain ⟨a, b⟩ := x
    dsimp only at w0 hw
    have : b = 0 := by omega
    rw [this]
   rw [e]
   dsimp only
   rw [← e2]
theorem nodeL_at {T : List Token} (hT : T.length ≤ 5000) (self : Rdr → Option (Node × Int × Bool)) (g : Node → List KT) (p : Int) (b : Bool) (K : Int → Bool → List Node → Option (Node × Int × Bool)) (L : List KT) : ∀ (r : List Node) (m i : Nat) (l : List Node), (∀ y ∈ r, ∀ (i : Nat) (L : List KT), Ends L → AtK T i (g y ++ L) → self ⟨T, (i : Int), false⟩ = some (y, ((i + (g y).length : Nat) : Int), false)) → r.length + 1 ≤ m → l.length + r.length ≤ 10000 → AtK T i ((r.map g).flatMap semi ++ (2, [125]) :: L) →
 program_reader_node_loop1 ⟨T, p, b⟩ self K m (i : Int) false l = K ((i + ((r.map g).flatMap semi).length : Nat) : Int) false (l ++ r)
 | [], 0, i, l, _, hm, _, _ => by simp at hm
 | [], m + 1, i, l, _, _, _, h => by
  rw [program_reader_node_loop1]
  dsimp only
  rw [takes_no hT (show AtK T i ((2, [125]) :: L) from h) (.inr ⟨by simp, by decide⟩), Option.bind_some, if_neg (by simp), List.append_nil]
  rfl
 | y :: r, 0, i, l, _, hm, _, _ => by simp at hm
 | y :: r, m + 1, i, l, hs, hm, hl, h => by
  have h' : AtK T i ((2, [59]) :: (g y ++ ((r.map g).flatMap semi ++ (2, [125]) :: L))) := by simpa [semi] using h
  obtain ⟨_, _, _, _, h2⟩ := h'.cons
  have hE : Ends ((r.map g).flatMap semi ++ (2, [125]) :: L) := by
   cases r with
   | nil => exact ⟨2, [125], L, rfl, by decide, fun q => by cases q⟩
   | cons z r => exact ⟨2, [59], _, rfl, by decide, fun q => by cases q⟩
  have ih := nodeL_at hT self g p b K L r m (i + 1 + (g y).length) (l ++ [y]) (fun z hz => hs z (List.mem_cons_of_mem _ hz)) (by simp at hm; omega) (by simp at hl ⊢; omega) h2.add
  rw [program_reader_node_loop1]
  dsimp only
  rw [takes_yes hT h' rfl (.inr rfl), Option.bind_some, if_pos rfl, hs y (List.mem_cons_self ..) (i + 1) _ hE h2, Option.bind_some, appO_ok (by simp; simp at hl; omega) (by decide), Option.bind_some]
  have e : l ++ [y] ++ r = l ++ y :: r := by simp
  have e2 : i + 1 + (g y).length + ((r.map g).flatMap semi).length = i + (((y :: r).map g).flatMap semi).length := by simp [semi]; omega
  rw [e, e2] at ih
  exact ih
theorem node_at {T : List Token} (hT : T.length ≤ 5000) {d : Nat} {x : Node} (h : Right d x) : ∀ (n i : Nat) (L : List KT), d ≤ n → Ends L → AtK T i (toksN d x ++ L) → program_reader_node n ⟨T, (i : Int), false⟩ = some (x, ((i + (toksN d x).length : Nat) : Int), false) := by
 induction h with
 | step d s h =>
  intro n i L hn hL hA
  obtain ⟨n, rfl⟩ : ∃ k, n = k + 1 := ⟨n - 1, by omega⟩
  have g := chk_zero.1 h
  rw [toksN_step] at hA ⊢
  rw [program_reader_node, program_reader_node_body, joinK]
  dsimp only
  have hh : ∃ c r, stepK s ++ L = (0, [c]) :: r := by
   unfold stepK
   match hs : s.strokes, g.ne with
   | y :: r, _ => exact ⟨_, _, rfl⟩
  obtain ⟨c, r, hc⟩ := hh
  have hA' : AtK T i ((0, [c]) :: r) := by rw [← hc]; exact hA
  rw [takes_no hT hA' (.inl (by decide)), Option.bind_some, if_neg (by simp), takes_no hT hA' (.inr ⟨by simp, by simp⟩), Option.bind_some, if_neg (by simp), takes_no hT hA' (.inr ⟨by simp, by simp⟩), Option.bind_some, if_neg (by simp), step_at hT g hL hA]
  rfl
 | list d l h hl k ih =>
  intro n i L hn hL hA
  obtain ⟨n, rfl⟩ : ∃ k, n = k + 1 := ⟨n - 1, by omega⟩
  rw [toksN_list] at hA ⊢
  rw [program_reader_node, program_reader_node_body, joinK]
  dsimp only
  match l, h with
  | y :: l, _ =>
   have hA1 : AtK T i ((2, [123]) :: (toksN d y ++ ((l.map (toksN d)).flatMap semi ++ (2, [125]) :: L))) := by simpa [sepK, semi] using hA
   obtain ⟨_, _, _, _, hA2⟩ := hA1.cons
   have hE : Ends ((l.map (toksN d)).flatMap semi ++ (2, [125]) :: L) := by
    cases l with
    | nil => exact ⟨2, [125], L, rfl, by decide, fun q => by cases q⟩
    | cons z r => exact ⟨2, [59], _, rfl, by decide, fun q => by cases q⟩
   have hlt := hA1.lt (by simp)
   have hfl : l.length ≤ ((l.map (toksN d)).flatMap semi).length := by
    rw [List.length_flatMap, List.map_map]
    exact len_sum fun y _ => by simp [semi]
   simp only [List.length_cons, List.length_append] at hlt
   rw [takes_yes hT hA1 rfl (.inr rfl), Option.bind_some, if_pos rfl, ih y (List.mem_cons_self ..) n (i + 1) _ (by omega) hE hA2, Option.bind_some, joinK]
   rw [nodeL_at hT (program_reader_node n) (toksN d) (i : Int) false _ L l (T.length + 2) (i + 1 + (toksN d y).length) [y] (fun z hz i L hL hA => ih z (List.mem_cons_of_mem _ hz) n i L (by omega) hL hA) (by omega) (by simp; omega) hA2.add, needs_yes hT hA2.add.add rfl (.inr rfl), Option.bind_some]
   have e : i + 1 + (toksN d y).length + ((l.map (toksN d)).flatMap semi).length + 1 = i + ((2, [123]) :: (sepK ((y :: l).map (toksN d)) ++ [(2, [125])]) : List KT).length := by
    rw [List.map_cons, sepK]
    simp only [List.length_cons, List.length_append, List.length_nil]
    omega
   rw [e]
   rfl
 | rep d c y h0 h1 h ih =>
  intro n i L hn hL hA
  obtain ⟨n, rfl⟩ : ∃ k, n = k + 1 := ⟨n - 1, by omega⟩
  rw [toksN_rep] at hA ⊢
  rw [program_reader_node, program_reader_node_body, joinK]
  dsimp only
  have hA1 : AtK T i ((0, repT) :: (1, Lib.decDigits c.toNat) :: (toksN d y ++ L)) := hA
  obtain ⟨_, _, _, _, hA2⟩ := hA1.cons
  obtain ⟨_, _, _, _, hA3⟩ := hA2.cons
  have hv : program_value (Lib.decDigits c.toNat) = some c := by
   unfold program_value
   rw [lval_eq _ (by have := dec7 (n := c.toNat) (by omega); omega), valS_dec (by omega), Option.bind_some]
   congr 1
   dsimp only
   omega
  rw [takes_no hT hA1 (.inl (by decide)), Option.bind_some, if_neg (by simp), takes_yes hT hA1 (s := [114, 101, 112, 101, 97, 116]) rfl (.inr rfl), Option.bind_some, if_pos rfl, needs_yes hT hA2 rfl (.inl rfl), Option.bind_some, hv, Option.bind_some, ih n (i + 1 + 1) L (by omega) hL hA3, Option.bind_some]
  congr 3
  simp
  omega
 | cho d nm a b h ha hb iha ihb =>
  intro n i L hn hL hA
  obtain ⟨n, rfl⟩ : ∃ k, n = k + 1 := ⟨n - 1, by omega⟩
  rw [toksN_cho] at hA ⊢
  rw [program_reader_node, program_reader_node_body, joinK]
  dsimp only
  have hA1 : AtK T i ((0, ifT) :: (0, nm) :: (toksN d a ++ ((0, elseT) :: (toksN d b ++ L)))) := by simpa using hA
  obtain ⟨_, _, _, _, hA2⟩ := hA1.cons
  obtain ⟨_, _, _, _, hA3⟩ := hA2.cons
  obtain ⟨_, _, _, _, hA4⟩ := hA3.add.cons
  have hE : Ends (((0, elseT) : KT) :: (toksN d b ++ L)) := ⟨0, elseT, _, rfl, by decide, fun _ => by decide⟩
  rw [takes_no hT hA1 (.inl (by decide)), Option.bind_some, if_neg (by simp), takes_no hT hA1 (.inr ⟨by simp, by decide⟩), Option.bind_some, if_neg (by simp), takes_yes hT hA1 (s := [105, 102]) rfl (.inr rfl), Option.bind_some, if_pos rfl, needs_yes hT hA2 rfl (.inl rfl), Option.bind_some, iha n (i + 1 + 1) _ (by omega) hE hA3, Option.bind_some, needs_yes hT hA3.add (s := [101, 108, 115, 101]) rfl (.inr rfl), Option.bind_some, ihb n _ L (by omega) hL hA4, Option.bind_some]
  congr 3
  simp
  omega
theorem parse_text {x : Node} (h : Right 16 x) (hc : cntT 16 x ≤ 256) (hl : (textN 16 x).length ≤ 4096) : program_Parse (textN 16 x) = some (x, 0, 0) := by
 have hs := text_sps h [] [] .nil (.inl rfl)
 rw [List.append_nil, List.append_nil] at hs
 obtain ⟨ts', h1, h2⟩ := sp_scan hs (textN 16 x).length 0 (Nat.le_refl _)
 have hR : scanR (textN 16 x) = (ts' ++ [endT (textN 16 x)], 0, 0) := by
  rw [scanR, if_neg (by omega), h1]
 have hlen : ts'.length ≤ 4096 := by
  have := scanS_len (textN 16 x).length (textN 16 x) 0
  rw [h1] at this
  dsimp only at this
  omega
 have hA : AtK (ts' ++ [endT (textN 16 x)]) 0 (toksN 16 x ++ [(3, [])]) := by
  unfold AtK
  rw [List.drop_zero, List.map_append, h2]
  rfl
 have hT : (ts' ++ [endT (textN 16 x)]).length ≤ 5000 := by simp; omega
 have hn := node_at hT h 600 0 [(3, [])] (by omega) ⟨3, [], [], rfl, by decide, fun q => by cases q⟩ hA
 rw [Nat.zero_add] at hn
 have hA2 := hA.add
 rw [Nat.zero_add] at hA2
 obtain ⟨t, a1, a2, a3, a4⟩ := hA2.cons
 have hk : checkN x = 0 := check_right.2 ⟨h, hc⟩
 rw [program_Parse, jscan_eq, Option.bind_some, hR]
 dsimp only
 rw [if_neg (by simp), show (0 : Int) = ((0 : Nat) : Int) from rfl, hn, Option.bind_some]
 dsimp only
 rw [a1, Option.bind_some, a2, if_neg (by simp), lcheckN_eq x (right_good h) (fun _ => right_nam h), Option.bind_some, hk, if_neg (by simp)]
theorem law_Reads15 (x : Node) (g : GoodN x) : law15_ProgramReads x = some true := by
 obtain ⟨b, h1, h2⟩ := right15_eq x [] g (by simp)
 rw [law15_ProgramReads, h1, Option.bind_some, awake_true]
 cases b with
 | false => rfl
 | true =>
  obtain ⟨hr, hc, h0, hN, hS, ho⟩ := h2 rfl
  have hi : ifOk x [] (fmtN x) = fmtN x := if_neg (by simpa using h0)
  rw [if_neg (by simp), lFormat_eq x g (fun _ => hN), hi, Option.bind_some, fmtN]
  by_cases hl : (textN 16 x).length > 4096
  · rw [if_pos hl]
    rfl
  · have hsm : ref15_Same x x = some true := rSame_refl hr (by omega)
    have hsp : program_Same x x = some true := by rw [lSame_eq x x g g (fun _ => hS), sameN_refl hr (by omega)]
    rw [if_neg hl, if_neg (by simp)]
    dsimp only
    rw [parse_text hr (by omega) (by omega), Option.bind_some]
    simp only [beq_self_eq_true, Bool.and_self, if_true, hsm, hsp, Option.bind_some]
end Go.Proofs.YtgpfgnpdbmbknaaGreatDoor.W
