import Derived.Test.YtgpfgnpdbmbknaaGreatDoorLawL
set_option linter.unusedVariables false
set_option linter.unusedSimpArgs false
set_option maxHeartbeats 2000000
set_option linter.unusedSectionVars false
set_option maxHeartbeats 200000
namespace Go.Proofs.YtgpfgnpdbmbknaaGreatDoor.W
open Go Go.RowKit
def runL {σ X : Type} (step : σ → X → Option (Bool × σ)) : List X → σ → Option (Bool × σ)
 | [], z => some (true, z)
 | a :: l, z => (step z a).bind fun q => if q.1 = true then runL step l q.2 else some (false, q.2)
theorem runL_append {σ X : Type} (step : σ → X → Option (Bool × σ)) (b : List X) : ∀ (a : List X) (z : σ), runL step (a ++ b) z = (runL step a z).bind fun q => if q.1 = true then runL step b q.2 else some (false, q.2)
 | [], z => by simp [runL]
 | x :: a, z => by
  rw [List.cons_append, runL, runL, Option.bind_assoc]
  congr 1
  funext q
  split
  · exact runL_append step b a q.2
  · rename_i h
    rw [Option.bind_some, if_neg (by simp)]
theorem GoodN.sub {x y : Node} (h : GoodN x) (hy : y ∈ x.nodes) : GoodN y := by cases h with | mk _ _ _ _ h4 => exact h4 y hy
theorem GoodN.len {x : Node} (h : GoodN x) : x.nodes.length ≤ maxLen := by cases h with | mk _ _ _ h3 _ => exact h3
theorem GoodN.name {x : Node} (h : GoodN x) : x.name.length ≤ maxLen := by cases h with | mk _ _ h2 _ _ => exact h2
theorem GoodN.strokes {x : Node} (h : GoodN x) : x.step.strokes.length ≤ maxLen := by cases h with | mk _ h1 _ _ _ => exact h1
theorem wrap_max {α : Type} {x : α} {pre r l : List α} (e : l = pre ++ x :: r) (h : l.length ≤ maxLen) : IntKind.wrap .i64 ((pre.length : Int) + 1) = ((pre ++ [x]).length : Int) := by
 rw [maxLen_eq] at h
 have : pre.length + 1 ≤ l.length := by rw [e]; simp
 rw [wrap64 (by omega) (by omega)]
 simp
def deepN : Nat → Node → Bool
 | 0, _ => false
 | d + 1, x => x.nodes.all (deepN d)
def cntT : Nat → Node → Nat
 | 0, _ => 1
 | d + 1, x => 1 + (x.nodes.map (cntT d)).sum
theorem cntT_pos : ∀ (d : Nat) (x : Node), 1 ≤ cntT d x
 | 0, x => Nat.le_refl _
 | d + 1, x => by rw [cntT]; omega
theorem deepN_sub {d : Nat} {x y : Node} (h : deepN (d + 1) x = true) (hy : y ∈ x.nodes) : deepN d y = true := List.all_eq_true.1 (by simpa [deepN] using h) y hy
theorem mem_sum {α : Type} {f : α → Nat} {l : List α} {y : α} (hy : y ∈ l) : f y ≤ (l.map f).sum := by
 induction l with
 | nil => cases hy
 | cons a l ih =>
  rw [List.map_cons, List.sum_cons]
  rcases List.mem_cons.1 hy with rfl | hy
  · omega
  · have := ih hy; omega
theorem len_sum {α : Type} {f : α → Nat} {l : List α} (h : ∀ y ∈ l, 1 ≤ f y) : l.length ≤ (l.map f).sum := by
 induction l with
 | nil => simp
 | cons a l ih =>
  rw [List.map_cons, List.sum_cons, List.length_cons]
  have := h a (List.mem_cons_self ..)
  have := ih fun y hy => h y (List.mem_cons_of_mem _ hy)
  omega
theorem cntT_sub {d : Nat} {x y : Node} (hy : y ∈ x.nodes) : cntT d y + 1 ≤ cntT (d + 1) x := by
 rw [cntT]; have := mem_sum (f := cntT d) hy; omega
theorem cntT_len {d : Nat} {x : Node} : x.nodes.length + 1 ≤ cntT (d + 1) x := by
 rw [cntT]; have := len_sum (f := cntT d) (l := x.nodes) fun y _ => cntT_pos d y; omega
theorem sum_congr {α : Type} {f g : α → Nat} {l : List α} (h : ∀ y ∈ l, f y = g y) : (l.map f).sum = (l.map g).sum := by
 rw [List.map_congr_left h]
theorem cntT_deep : ∀ {d e : Nat} {x : Node}, d ≤ e → deepN (d + 1) x = true → cntT e x = cntT d x
 | 0, 0, x, _, _ => rfl
 | 0, e + 1, x, _, h => by
  have hn : x.nodes = [] := by
   cases hq : x.nodes with
   | nil => rfl
   | cons y r => have := deepN_sub h (y := y) (by rw [hq]; exact List.mem_cons_self ..); cases this
  rw [cntT, cntT, hn]
  rfl
 | d + 1, 0, x, he, _ => by omega
 | d + 1, e + 1, x, he, h => by
  rw [cntT, cntT, sum_congr fun y hy => cntT_deep (by omega) (deepN_sub h hy)]
theorem min_sum {α : Type} {f g : α → Nat} {m : Nat} {l : List α} (h : ∀ y ∈ l, min (f y) m = min (g y) m) : min (l.map f).sum m = min (l.map g).sum m := by
 induction l with
 | nil => rfl
 | cons a l ih =>
  have h1 := h a (List.mem_cons_self ..)
  have h2 := ih fun y hy => h y (List.mem_cons_of_mem _ hy)
  rw [List.map_cons, List.map_cons, List.sum_cons, List.sum_cons]
  omega
theorem cntT_min : ∀ (d e : Nat) (x : Node), d ≤ e → min (cntT d x) (d + 1) = min (cntT e x) (d + 1)
 | 0, e, x, _ => by have := cntT_pos e x; have := cntT_pos 0 x; omega
 | d + 1, 0, x, he => by omega
 | d + 1, e + 1, x, he => by
  have := min_sum (f := cntT d) (g := cntT e) (m := d + 1) (l := x.nodes) fun y _ => cntT_min d e y (by omega)
  rw [cntT, cntT]
  omega
theorem rcount_loop (x : Node) (g : x.nodes.length ≤ maxLen) (most : Nat) (hm : most ≤ 100000) (self : Node → Int → Option Int) (hs : ∀ y ∈ x.nodes, ∀ m : Nat, m + 1 ≤ most → self y (m : Int) = some ((min (cntT m y) (m + 1) : Nat) : Int)) (k : Int → Option Int) :
 ∀ (r pre : List Node) (n : Nat), x.nodes = pre ++ r → 1 ≤ n → n ≤ most + 1 → ref15_count_loop1 x (most : Int) self k (r.length + 1) (n : Int) (pre.length : Int) = k ((min (n + (r.map (cntT (most - 1))).sum) (most + 1) : Nat) : Int)
 | [], pre, n, e, h1, h2 => by
  rw [ref15_count_loop1, e, ge_end, Bool.false_and, if_neg (by simp)]
  congr 2
  simp
  omega
 | y :: r, pre, n, e, h1, h2 => by
  have ih := fun n => rcount_loop x g most hm self hs k r (pre ++ [y]) n (by rw [e, mid_cons])
  have hw := wrap_max e g
  rw [List.length_cons, ref15_count_loop1, e, lt_mid, Bool.true_and]
  by_cases hn : n ≤ most
  · have hy : y ∈ x.nodes := by rw [e]; simp
    rw [if_pos (by rw [decide_eq_true_eq]; omega), at?_mid, Option.bind_some, wrap64 (x := (most : Int) - (n : Int)) (by omega) (by omega), show (most : Int) - (n : Int) = ((most - n : Nat) : Int) by omega, hs y hy (most - n) (by omega), Option.bind_some, wrap64 (x := (n : Int) + _) (by omega) (by omega), hw]
    have e2 : (n : Int) + ((min (cntT (most - n) y) (most - n + 1) : Nat) : Int) = ((n + min (cntT (most - n) y) (most - n + 1) : Nat) : Int) := by omega
    rw [e2, ih _ (by omega) (by omega)]
    congr 2
    have := cntT_min (most - n) (most - 1) y (by omega)
    rw [List.map_cons, List.sum_cons]
    omega
  · rw [if_neg (by rw [decide_eq_true_eq]; omega)]
    congr 2
    omega
theorem rcount_eq : ∀ (n most : Nat) (x : Node), most + 1 ≤ n → n ≤ 100000 → GoodN x → ref15_count n x (most : Int) = some ((min (cntT most x) (most + 1) : Nat) : Int)
 | 0, most, x, h, _, g => by omega
 | n + 1, most, x, h, hn, g => by
  rw [ref15_count, ref15_count_body, joinK]
  have := rcount_loop x g.len most (by omega) (ref15_count n) (fun y hy m hm => rcount_eq n m y (by omega) (by omega) (g.sub hy)) (fun i3 => some i3) x.nodes [] 1 rfl (by omega) (by omega)
  rw [show ((1 : Nat) : Int) = 1 from rfl] at this
  refine this.trans ?_
  congr 2
  cases most with
  | zero => rw [cntT]; omega
  | succ m => rw [cntT]; rfl
theorem rdeep_loop (x : Node) (g : x.nodes.length ≤ maxLen) (most : Int) (self : Node → Int → Option Bool) (f : Node → Bool) (hs : ∀ y ∈ x.nodes, self y (IntKind.wrap .i64 (most - 1)) = some (f y)) :
 ∀ (r pre : List Node), x.nodes = pre ++ r → ref15_deep_loop1 x most self (some true) (r.length + 1) (pre.length : Int) = some (r.all f)
 | [], pre, e => by rw [ref15_deep_loop1, e, ge_end, if_neg (by simp)]; rfl
 | y :: r, pre, e => by
  have ih := rdeep_loop x g most self f hs r (pre ++ [y]) (by rw [e, mid_cons])
  have hw := wrap_max e g
  have hy : y ∈ x.nodes := by rw [e]; simp
  rw [List.length_cons, ref15_deep_loop1, e, lt_mid, if_pos rfl, at?_mid, Option.bind_some, hs y hy, Option.bind_some, hw, ih, List.all_cons]
  cases f y <;> simp
theorem rdeep_eq : ∀ (n d : Nat) (x : Node), d + 1 ≤ n → n ≤ 100000 → GoodN x → ref15_deep n x (d : Int) = some (deepN d x)
 | 0, d, x, h, _, g => by omega
 | n + 1, 0, x, h, hn, g => by rw [ref15_deep, ref15_deep_body, if_pos (by decide)]; rfl
 | n + 1, d + 1, x, h, hn, g => by
  rw [ref15_deep, ref15_deep_body, if_neg (by rw [decide_eq_true_eq]; omega)]
  by_cases hd : d = 0
  · subst hd
    rw [if_pos (by rfl), deepN]
    cases hq : x.nodes with
    | nil => rfl
    | cons y r => simp [deepN]; omega
  · rw [if_neg (by simp; omega), joinK, fuel0]
    refine rdeep_loop x g.len _ _ (deepN d) (fun y hy => ?_) x.nodes [] rfl
    rw [wrap64 (by omega) (by omega), show ((d + 1 : Nat) : Int) - 1 = (d : Int) by omega]
    exact rdeep_eq n d y (by omega) (by omega) (g.sub hy)
def lightB (x : Node) : Bool := decide (cntT 16 x ≤ 256) && deepN 16 x
theorem light_iff {x : Node} : lightB x = true ↔ cntT 16 x ≤ 256 ∧ deepN 16 x = true := by
 rw [lightB, Bool.and_eq_true, decide_eq_true_eq]
theorem rlight_eq (x : Node) (g : GoodN x) : ref15_Light x = some (lightB x) := by
 rw [ref15_Light, show (256 : Int) = ((256 : Nat) : Int) from rfl, rcount_eq 600 256 x (by omega) (by omega) g, Option.bind_some, show (16 : Int) = ((16 : Nat) : Int) from rfl, rdeep_eq 600 16 x (by omega) (by omega) g, Option.bind_some]
 rw [lightB]
 cases hd : deepN 16 x with
 | false =>
  rw [Bool.and_false]
  split <;> rfl
 | true =>
  have := cntT_deep (d := 15) (e := 256) (x := x) (by omega) hd
  have := cntT_deep (d := 15) (e := 16) (x := x) (by omega) hd
  rw [Bool.and_true]
  by_cases hc : cntT 16 x ≤ 256
  · rw [if_pos (by rw [decide_eq_true_eq]; omega), decide_eq_true hc]; rfl
  · rw [if_neg (by rw [decide_eq_true_eq]; omega), decide_eq_false hc]; rfl
def preL : Nat → Int → Node → List (Int × Node)
 | 0, k, x => [(k, x)]
 | m + 1, k, x => (k, x) :: x.nodes.flatMap (preL m (k + 1))
section
variable {σ : Type} (step : σ → (Int × Node) → Option (Bool × σ))
theorem pre_loop0 (x : Node) (g : x.nodes.length ≤ maxLen) (k : Int) (hk : ¬ k ≤ 16) (self : Node → Int → σ → Option (Bool × σ)) (K : σ → Option (Bool × σ)) :
 ∀ (r pre : List Node) (z : σ), x.nodes = pre ++ r → program_preorder_1_1_loop1 x k self K (r.length + 1) z (pre.length : Int) = K z
 | [], pre, z, e => by rw [program_preorder_1_1_loop1, e, ge_end, if_neg (by simp)]
 | y :: r, pre, z, e => by
  have ih := pre_loop0 x g k hk self K r (pre ++ [y]) z (by rw [e, mid_cons])
  have hw := wrap_max e g
  rw [List.length_cons, program_preorder_1_1_loop1, e, lt_mid, if_pos rfl, at?_mid, Option.bind_some, if_neg (by rw [decide_eq_true_eq]; exact hk), hw, ih]
theorem pre_loop (x : Node) (g : x.nodes.length ≤ maxLen) (k : Int) (h0 : 0 ≤ k) (hk : k ≤ 16) (self : Node → Int → σ → Option (Bool × σ)) (f : Node → List (Int × Node)) (hs : ∀ y ∈ x.nodes, ∀ z, self y (k + 1) z = runL step (f y) z) :
 ∀ (r pre : List Node) (z : σ), x.nodes = pre ++ r → program_preorder_1_1_loop1 x k self (fun z => some (true, z)) (r.length + 1) z (pre.length : Int) = runL step (r.flatMap f) z
 | [], pre, z, e => by rw [program_preorder_1_1_loop1, e, ge_end, if_neg (by simp)]; rfl
 | y :: r, pre, z, e => by
  have ih := fun z => pre_loop x g k h0 hk self f hs r (pre ++ [y]) z (by rw [e, mid_cons])
  have hw := wrap_max e g
  have hy : y ∈ x.nodes := by rw [e]; simp
  rw [List.length_cons, program_preorder_1_1_loop1, e, lt_mid, if_pos rfl, at?_mid, Option.bind_some, if_pos (by rw [decide_eq_true_eq]; exact hk), hw, wrap64 (x := k + 1) (by omega) (by omega), hs y hy, List.flatMap_cons, runL_append]
  congr 1
  funext q
  split
  · exact ih q.2
  · rfl
theorem pre_eq : ∀ (m n : Nat) (k : Int) (x : Node) (z : σ), k + m = 17 → 0 ≤ k → m < n → GoodN x → program_preorder_1_1 step n x k z = runL step (preL m k x) z
 | m, 0, k, x, z, _, _, h, _ => by omega
 | 0, n + 1, k, x, z, hk, h0, _, g => by
  rw [program_preorder_1_1, program_preorder_1_1_body, preL, runL]
  congr 1
  funext q
  split
  · rw [joinK]
    exact pre_loop0 x g.len k (by omega) _ _ x.nodes [] q.2 rfl
  · rfl
 | m + 1, n + 1, k, x, z, hk, h0, h, g => by
  rw [program_preorder_1_1, program_preorder_1_1_body, preL, runL]
  congr 1
  funext q
  split
  · rw [joinK]
    exact pre_loop step x g.len k h0 (by omega) _ (preL m (k + 1)) (fun y hy z => pre_eq m n (k + 1) y z (by omega) (by omega) (by omega) (g.sub hy)) x.nodes [] q.2 rfl
  · rfl
theorem preorder_eq (x : Node) (z : σ) (g : GoodN x) : program_preorder_1 step x z = runL step (preL 16 1 x) z := by
 rw [program_preorder_1, pre_eq step 16 600 1 x z (by omega) (by omega) (by omega) g]
 cases runL step (preL 16 1 x) z with
 | none => rfl
 | some q =>
  obtain ⟨b, s⟩ := q
  cases b <;> rfl
end
theorem light_run : ∀ (L : List (Int × Node)) (c : Nat), c ≤ 256 → ∃ q, runL program_light_rng1 L (c : Int) = some q ∧ (q.1 = true ↔ c + L.length ≤ 256 ∧ ∀ a ∈ L, a.1 ≤ 16)
 | [], c, h => ⟨_, rfl, by simp [h]⟩
 | a :: L, c, h => by
  rw [runL, program_light_rng1, wrap64 (x := (c : Int) + 1) (by omega) (by omega)]
  by_cases h1 : c + 1 ≤ 256 ∧ a.1 ≤ 16
  · obtain ⟨q, h2, h3⟩ := light_run L (c + 1) h1.1
    refine ⟨q, ?_, ?_⟩
    · rw [if_neg (by simp; omega), Option.bind_some, if_pos rfl]
      exact h2
    · rw [h3, List.length_cons]
      simp only [List.mem_cons, forall_eq_or_imp]
      exact ⟨fun q => ⟨by omega, h1.2, q.2⟩, fun q => ⟨by omega, q.2.2⟩⟩
  · refine ⟨_, by rw [if_pos (by simp; omega), Option.bind_some, if_neg (by simp)], ?_⟩
    rw [List.length_cons]
    simp only [List.mem_cons, forall_eq_or_imp, Bool.false_eq_true, false_iff]
    rintro ⟨q1, q2, _⟩
    exact h1 ⟨by omega, q2⟩
theorem preL_deep : ∀ (m : Nat) (k : Int) (x : Node), k + m = 17 → ((∀ a ∈ preL m k x, a.1 ≤ 16) ↔ deepN m x = true)
 | 0, k, x, h => by
  rw [preL, deepN]
  simp
  omega
 | m + 1, k, x, h => by
  rw [preL, deepN, List.all_eq_true]
  simp only [List.mem_cons, List.mem_flatMap, forall_eq_or_imp]
  constructor
  · rintro ⟨_, h2⟩ y hy
    exact (preL_deep m (k + 1) y (by omega)).1 fun a ha => h2 a ⟨y, hy, ha⟩
  · intro h2
    refine ⟨by show k ≤ 16; omega, ?_⟩
    rintro a ⟨y, hy, ha⟩
    exact (preL_deep m (k + 1) y (by omega)).2 (h2 y hy) a ha
theorem preL_len : ∀ (m : Nat) (k : Int) (x : Node), (preL m k x).length = cntT m x
 | 0, k, x => rfl
 | m + 1, k, x => by
  rw [preL, cntT, List.length_cons, List.length_flatMap, sum_congr fun y _ => preL_len m (k + 1) y]
  omega
theorem llight_eq (x : Node) (g : GoodN x) : program_light x = some (lightB x) := by
 obtain ⟨q, h1, h2⟩ := light_run (preL 16 1 x) 0 (by omega)
 rw [program_light, preorder_eq _ x _ g, show (0 : Int) = ((0 : Nat) : Int) from rfl, h1, Option.bind_some]
 rw [preL_len, preL_deep 16 1 x (by omega), Nat.zero_add] at h2
 have h3 : q.1 = lightB x := by rw [Bool.eq_iff_iff, h2, light_iff]
 rw [h3]
 cases lightB x <;> rfl
def noStep (x : Step) : Bool := decide (x.strokes = []) && x.wait == 0
def shapeB (x : Node) : Bool :=
 if x.kind = 0 then decide (x.nodes = []) && x.count == 0 && x.name == []
 else if x.kind = 1 then decide (x.nodes ≠ []) && noStep x.step && x.count == 0 && x.name == []
 else if x.kind = 2 then x.nodes.length == 1 && noStep x.step && x.name == []
 else x.nodes.length == 2 && noStep x.step && x.count == 0
def nodeE (x : Node) : Int :=
 if x.kind < 0 ∨ x.kind > 3 then 1 else if shapeB x = false then 3
 else if x.kind = 0 then chk x.step else if x.kind = 2 then (if x.count < 1 ∨ x.count > 64 then 2 else 0) else if x.kind = 3 then word x.name else 0
theorem len0 {α : Type} {l : List α} : ((l.length : Int) == 0) = decide (l = []) := by
 cases l with
 | nil => rfl
 | cons a l => simp; omega
theorem lenP {α : Type} {l : List α} : decide ((l.length : Int) > 0) = decide (l ≠ []) := by
 cases l with
 | nil => rfl
 | cons a l => simp
theorem lenN {α : Type} {l : List α} (k : Nat) : ((l.length : Int) == (k : Int)) = (l.length == k) := by
 rw [Bool.eq_iff_iff, beq_iff_eq, beq_iff_eq]; omega
theorem lenN' {α : Type} {l : List α} (k : Nat) : ((l.length : Int) != (k : Int)) = (l.length != k) := by
 rw [bne, bne, lenN]
theorem lalone_eq (x : Node) (h : x.name.length ≤ 100000) : program_alone x = some (nodeE x) := by
 obtain ⟨k, s, c, n, l⟩ := x
 dsimp only at h
 unfold program_alone nodeE joinK shapeB noStep
 dsimp only
 rw [lchk_eq, lword_eq _ (by omega), len0, lenP, lenP, show (1 : Int) = ((1 : Nat) : Int) from rfl, show (2 : Int) = ((2 : Nat) : Int) from rfl, lenN', lenN']
 simp only [Option.bind_some]
 by_cases h0 : k = 0
 · subst h0
   by_cases a : l = [] <;> by_cases b : c = 0 <;> by_cases d : n = [] <;> simp [a, b, d]
 · by_cases h1 : k = 1
   · subst h1
     by_cases a : l = [] <;> by_cases b : c = 0 <;> by_cases d : n = [] <;> by_cases e : s.strokes = [] <;> by_cases f : s.wait = 0 <;> simp [a, b, d, e, f]
   · by_cases h2 : k = 2
     · subst h2
       by_cases q : c < 1 ∨ 64 < c <;> by_cases a : l.length = 1 <;> by_cases d : n = [] <;> by_cases e : s.strokes = [] <;> by_cases f : s.wait = 0 <;> simp [a, d, e, f, q]
     · by_cases h3 : k = 3
       · subst h3
         by_cases a : l.length = 2 <;> by_cases b : c = 0 <;> by_cases e : s.strokes = [] <;> by_cases f : s.wait = 0 <;> simp [a, b, e, f]
       · have hk : k < 0 ∨ k > 3 := by omega
         rw [if_pos hk]
         simp [h0, h1, h2, h3]
theorem ralone_eq (x : Node) (h : x.name.length ≤ 100000) : ref15_node x = some (nodeE x) := by
 have hs : ref15_shape x = some (shapeB x) := by
  unfold ref15_shape shapeB noStep
  rw [len0, lenP, len0, show (1 : Int) = ((1 : Nat) : Int) from rfl, show (2 : Int) = ((2 : Nat) : Int) from rfl, lenN, lenN]
  simp only [beq_iff_eq]
  repeat' split
  all_goals rfl
 unfold ref15_node nodeE joinK
 dsimp only
 rw [hs, rchk_eq, rword_eq _ (by omega)]
 simp only [Option.bind_some, beq_iff_eq, Bool.or_eq_true, decide_eq_true_eq, Bool.not_eq_true']
 repeat' split
 all_goals first | rfl | (exfalso; omega)
def firstE {α : Type} (f : α → Int) : List α → Int
 | [] => 0
 | a :: l => if f a ≠ 0 then f a else firstE f l
theorem firstE_zero {α : Type} {f : α → Int} : ∀ {l : List α}, firstE f l = 0 ↔ ∀ a ∈ l, f a = 0
 | [] => by simp [firstE]
 | a :: l => by
  rw [firstE]
  split
  · rename_i h
    constructor
    · intro q; exact absurd q h
    · intro q; exact q a (List.mem_cons_self ..)
  · rename_i h
    rw [firstE_zero]
    simp only [List.mem_cons, forall_eq_or_imp]
    exact ⟨fun q => ⟨Decidable.not_not.1 h, q⟩, fun q => q.2⟩
theorem firstE_append {α : Type} (f : α → Int) (b : List α) : ∀ a : List α, firstE f (a ++ b) = if firstE f a ≠ 0 then firstE f a else firstE f b
 | [] => by simp [firstE]
 | x :: a => by
  rw [List.cons_append, firstE, firstE, firstE_append f b a]
  by_cases h : f x = 0
  · simp only [h, ne_eq, not_true_eq_false, if_false]
  · simp only [h, ne_eq, not_false_eq_true, if_true]
theorem firstE_flatMap {α β : Type} (f : β → Int) (g : α → List β) : ∀ l : List α, firstE f (l.flatMap g) = firstE (fun y => firstE f (g y)) l
 | [] => rfl
 | x :: l => by rw [List.flatMap_cons, firstE_append, firstE, firstE_flatMap f g l]
theorem firstE_congr {α : Type} {f g : α → Int} : ∀ {l : List α}, (∀ a ∈ l, f a = g a) → firstE f l = firstE g l
 | [], _ => rfl
 | a :: l, h => by rw [firstE, firstE, h a (List.mem_cons_self ..), firstE_congr fun y hy => h y (List.mem_cons_of_mem _ hy)]
def nodesE : Nat → Node → Int
 | 0, x => nodeE x
 | d + 1, x => if nodeE x ≠ 0 then nodeE x else firstE (nodesE d) x.nodes
def checkN (x : Node) : Int := if lightB x = false then 5 else nodesE 16 x
inductive NamOk : Node → Prop
 | mk (x : Node) (h : x.name.length ≤ 100000) (k : ∀ y ∈ x.nodes, NamOk y) : NamOk x
theorem NamOk.here {x : Node} (h : NamOk x) : x.name.length ≤ 100000 := by cases h with | mk _ h _ => exact h
theorem NamOk.sub {x y : Node} (h : NamOk x) (hy : y ∈ x.nodes) : NamOk y := by cases h with | mk _ _ k => exact k y hy
theorem preL_nam : ∀ (m : Nat) (k : Int) (x : Node), NamOk x → ∀ a ∈ preL m k x, a.2.name.length ≤ 100000
 | 0, k, x, h, a, ha => by
  rw [preL, List.mem_singleton] at ha
  rw [ha]
  exact h.here
 | m + 1, k, x, h, a, ha => by
  rw [preL] at ha
  rcases List.mem_cons.1 ha with rfl | ha
  · exact h.here
  · obtain ⟨y, hy, ha⟩ := List.mem_flatMap.1 ha
    exact preL_nam m (k + 1) y (h.sub hy) a ha
theorem check_run : ∀ (L : List (Int × Node)) (q : Int), (∀ a ∈ L, a.2.name.length ≤ 100000) → runL program_Check_rng1 L q = some (if firstE (fun a => nodeE a.2) L = 0 then (true, q) else (false, firstE (fun a => nodeE a.2) L))
 | [], q, h => by simp [runL, firstE]
 | a :: L, q, h => by
  rw [runL, program_Check_rng1, lalone_eq _ (h a (List.mem_cons_self ..)), Option.bind_some, firstE]
  by_cases h0 : nodeE a.2 = 0
  · have e : (if nodeE a.2 ≠ 0 then nodeE a.2 else firstE (fun a : Int × Node => nodeE a.2) L) = firstE (fun a : Int × Node => nodeE a.2) L := if_neg (by simpa using h0)
    rw [e, if_neg (by simpa using h0), Option.bind_some, if_pos rfl]
    exact check_run L q fun y hy => h y (List.mem_cons_of_mem _ hy)
  · have e : (if nodeE a.2 ≠ 0 then nodeE a.2 else firstE (fun a : Int × Node => nodeE a.2) L) = nodeE a.2 := if_pos h0
    rw [e, if_pos (by simpa using h0), Option.bind_some, if_neg (by simp), if_neg h0]
theorem nodesE_pre : ∀ (m : Nat) (k : Int) (x : Node), firstE (fun a : Int × Node => nodeE a.2) (preL m k x) = nodesE m x
 | 0, k, x => by
  rw [preL, nodesE, firstE, firstE]
  split
  · rfl
  · rename_i h; exact (Decidable.not_not.1 h).symm
 | m + 1, k, x => by rw [preL, nodesE, firstE, firstE_flatMap, firstE_congr fun y _ => nodesE_pre m (k + 1) y]
theorem lcheckN_eq (x : Node) (g : GoodN x) (h : lightB x = true → NamOk x) : program_Check x = some (checkN x) := by
 rw [program_Check, llight_eq x g, Option.bind_some, checkN]
 cases hl : lightB x with
 | false => rfl
 | true =>
  rw [if_neg (by simp), preorder_eq _ x _ g, check_run _ _ (preL_nam 16 1 x (h hl)), nodesE_pre, Option.bind_some]
  by_cases h0 : nodesE 16 x = 0 <;> simp [h0]
theorem rnodes_loop (x : Node) (g : x.nodes.length ≤ maxLen) (self : Node → Option Int) (f : Node → Int) (hs : ∀ y ∈ x.nodes, self y = some (f y)) :
 ∀ (r pre : List Node), x.nodes = pre ++ r → ref15_nodes_loop1 x self (some 0) (r.length + 1) (pre.length : Int) = some (firstE f r)
 | [], pre, e => by rw [ref15_nodes_loop1, e, ge_end, if_neg (by simp)]; rfl
 | y :: r, pre, e => by
  have ih := rnodes_loop x g self f hs r (pre ++ [y]) (by rw [e, mid_cons])
  have hw := wrap_max e g
  have hy : y ∈ x.nodes := by rw [e]; simp
  rw [List.length_cons, ref15_nodes_loop1, e, lt_mid, if_pos rfl, at?_mid, Option.bind_some, hs y hy, Option.bind_some, hw, ih, firstE]
  by_cases h0 : f y = 0
  · rw [if_neg (by simpa using h0), if_neg (by simpa using h0)]
  · rw [if_pos (by simpa using h0), if_pos h0]
theorem rnodes_eq : ∀ (n d : Nat) (x : Node), d ≤ n → deepN d x = true → GoodN x → NamOk x → ref15_nodes n x = some (nodesE d x)
 | n, 0, x, _, h, _, _ => by cases h
 | 0, d + 1, x, hd, _, _, _ => by omega
 | n + 1, d + 1, x, hd, h, g, k => by
  rw [ref15_nodes, ref15_nodes_body, ralone_eq _ k.here, Option.bind_some, nodesE]
  by_cases h0 : nodeE x = 0
  · rw [if_neg (by simpa using h0), joinK, fuel0, if_neg (by simpa using h0)]
    exact rnodes_loop x g.len _ (nodesE d) (fun y hy => rnodes_eq n d y (by omega) (deepN_sub h hy) (g.sub hy) (k.sub hy)) x.nodes [] rfl
  · rw [if_pos (by simpa using h0), if_pos h0]
theorem rcheckN_eq (x : Node) (g : GoodN x) (h : lightB x = true → NamOk x) : ref15_Check x = some (checkN x) := by
 rw [ref15_Check, rlight_eq x g, Option.bind_some, checkN]
 cases hl : lightB x with
 | false => rfl
 | true =>
  rw [if_neg (by simp), rnodes_eq 600 16 x (by omega) (light_iff.1 hl).2 g (h hl), Option.bind_some]
  simp
inductive Right : Nat → Node → Prop
 | step (d : Nat) (s : Step) (h : chk s = 0) : Right (d + 1) ⟨0, s, 0, [], []⟩
 | list (d : Nat) (l : List Node) (h : l ≠ []) (hl : l.length ≤ 256) (k : ∀ y ∈ l, Right d y) : Right (d + 1) ⟨1, ⟨[], 0⟩, 0, [], l⟩
 | rep (d : Nat) (c : Int) (y : Node) (h0 : 1 ≤ c) (h1 : c ≤ 64) (h : Right d y) : Right (d + 1) ⟨2, ⟨[], 0⟩, c, [], [y]⟩
 | cho (d : Nat) (n : List UInt8) (a b : Node) (h : word n = 0) (ha : Right d a) (hb : Right d b) : Right (d + 1) ⟨3, ⟨[], 0⟩, 0, n, [a, b]⟩
theorem noStep_eq {s : Step} (h : noStep s = true) : s = ⟨[], 0⟩ := by
 obtain ⟨a, b⟩ := s
 simp [noStep] at h
 rw [h.1, h.2]
theorem right_of : ∀ (d : Nat) (x : Node), deepN d x = true → cntT d x ≤ 256 → nodesE d x = 0 → Right d x
 | 0, x, h, _, _ => by cases h
 | d + 1, x, h, hc, he => by
  rw [nodesE] at he
  have h0 : nodeE x = 0 := by
   apply Classical.byContradiction
   intro q
   rw [if_pos q] at he
   exact q he
  rw [if_neg (by simpa using h0), firstE_zero] at he
  have hsub : ∀ y ∈ x.nodes, Right d y := fun y hy => right_of d y (deepN_sub h hy) (by have := cntT_sub (d := d) hy; omega) (he y hy)
  have hlen := cntT_len (d := d) (x := x)
  obtain ⟨k, s, c, n, l⟩ := x
  unfold nodeE at h0
  dsimp only at h0 hsub hlen
  split at h0
  · cases h0
  · rename_i hk
    split at h0
    · cases h0
    · rename_i hs
      rw [Bool.not_eq_false] at hs
      unfold shapeB at hs
      dsimp only at hs
      split at h0
      · rename_i e
        rw [if_pos e] at hs
        simp at hs
        obtain ⟨⟨rfl, rfl⟩, rfl⟩ := hs
        rw [e]
        exact .step d s h0
      · rename_i e0
        rw [if_neg e0] at hs
        split at h0
        · rename_i e
          rw [if_neg (by omega), if_pos e] at hs
          simp at hs
          obtain ⟨⟨h1, h2⟩, rfl⟩ := hs
          obtain rfl := noStep_eq h2
          split at h0
          · cases h0
          · rename_i hcc
            match l, h1 with
            | [y], _ =>
             rw [e]
             exact .rep d c y (by omega) (by omega) (hsub y (List.mem_cons_self ..))
        · rename_i e2
          split at h0
          · rename_i e
            rw [if_neg (by omega), if_neg e2] at hs
            simp at hs
            obtain ⟨⟨h1, h2⟩, rfl⟩ := hs
            obtain rfl := noStep_eq h2
            match l, h1 with
            | [a, b], _ =>
             rw [e]
             exact .cho d n a b h0 (hsub a (by simp)) (hsub b (by simp))
          · rename_i e3
            have e : k = 1 := by omega
            rw [if_pos e] at hs
            simp at hs
            obtain ⟨⟨⟨h1, h2⟩, rfl⟩, rfl⟩ := hs
            obtain rfl := noStep_eq h2
            rw [e]
            exact .list d l h1 (by omega) hsub
theorem right_deep {d : Nat} {x : Node} (h : Right d x) : deepN d x = true := by
 induction h with
 | step d s h => rfl
 | list d l h hl k ih => rw [deepN, List.all_eq_true]; exact ih
 | rep d c y h0 h1 h ih => rw [deepN, List.all_eq_true]; intro z hz; rw [List.mem_singleton.1 hz]; exact ih
 | cho d n a b h ha hb iha ihb =>
  rw [deepN, List.all_eq_true]
  intro z hz
  rcases List.mem_cons.1 hz with rfl | hz
  · exact iha
  · rw [List.mem_singleton.1 hz]; exact ihb
theorem right_E {d : Nat} {x : Node} (h : Right d x) : nodesE d x = 0 := by
 have key : ∀ {d : Nat} {x : Node}, nodeE x = 0 → (∀ y ∈ x.nodes, nodesE d y = 0) → nodesE (d + 1) x = 0 := fun h0 k => by
  rw [nodesE, if_neg (by simpa using h0)]
  exact firstE_zero.2 k
 induction h with
 | step d s h => exact key (by simpa [nodeE, shapeB] using h) (fun y hy => by cases hy)
 | list d l h hl k ih => exact key (by simp [nodeE, shapeB, h, noStep]) ih
 | rep d c y h0 h1 h ih => exact key (by simp [nodeE, shapeB, noStep]; omega) (fun z hz => by rw [List.mem_singleton.1 hz]; exact ih)
 | cho d n a b h ha hb iha ihb => exact key (by simp [nodeE, shapeB, noStep, h]) (fun z hz => by
  rcases List.mem_cons.1 hz with rfl | hz
  · exact iha
  · rw [List.mem_singleton.1 hz]; exact ihb)
theorem word_len {s : List UInt8} (h : word s = 0) : s.length ≤ 24 := by
 unfold word at h
 repeat' split at h
 all_goals first | (cases h; done) | omega
theorem check_right {x : Node} : checkN x = 0 ↔ Right 16 x ∧ cntT 16 x ≤ 256 := by
 unfold checkN
 constructor
 · intro h
   split at h
   · cases h
   · rename_i hl
     obtain ⟨a, b⟩ := light_iff.1 (by simpa using hl)
     exact ⟨right_of 16 x b a h, a⟩
 · rintro ⟨a, b⟩
   rw [if_neg (by rw [light_iff.2 ⟨b, right_deep a⟩]; simp)]
   exact right_E a
inductive ShortN : Node → Prop
 | mk (x : Node) (h1 : x.step.strokes.length ≤ 40) (h2 : x.name.length ≤ 60) (k : ∀ y ∈ x.nodes, ShortN y) : ShortN x
theorem ShortN.here {x : Node} (h : ShortN x) : x.step.strokes.length ≤ 40 ∧ x.name.length ≤ 60 := by cases h with | mk _ a b _ => exact ⟨a, b⟩
theorem ShortN.sub {x y : Node} (h : ShortN x) (hy : y ∈ x.nodes) : ShortN y := by cases h with | mk _ _ _ k => exact k y hy
theorem ShortN.nam {x : Node} (h : ShortN x) : NamOk x := by
 induction h with
 | mk x h1 h2 k ih => exact .mk x (by omega) ih
theorem short_loop (x : Node) (g : x.nodes.length ≤ maxLen) (self : Node → Option Bool) (f : Node → Bool) (hs : ∀ y ∈ x.nodes, self y = some (f y)) :
 ∀ (r pre : List Node), x.nodes = pre ++ r → ref15_short_loop1 x self (some true) (r.length + 1) (pre.length : Int) = some (r.all f)
 | [], pre, e => by rw [ref15_short_loop1, e, ge_end, if_neg (by simp)]; rfl
 | y :: r, pre, e => by
  have ih := short_loop x g self f hs r (pre ++ [y]) (by rw [e, mid_cons])
  have hw := wrap_max e g
  have hy : y ∈ x.nodes := by rw [e]; simp
  rw [List.length_cons, ref15_short_loop1, e, lt_mid, if_pos rfl, at?_mid, Option.bind_some, hs y hy, Option.bind_some, hw, ih, List.all_cons]
  cases f y <;> simp
def shortB : Nat → Node → Bool
 | 0, _ => false
 | d + 1, x => decide (x.step.strokes.length ≤ 40) && decide (x.name.length ≤ 60) && x.nodes.all (shortB d)
theorem short_eq15 : ∀ (n d : Nat) (x : Node), d ≤ n → deepN d x = true → GoodN x → ref15_short n x = some (shortB d x)
 | n, 0, x, _, h, _ => by cases h
 | 0, d + 1, x, hd, _, _ => by omega
 | n + 1, d + 1, x, hd, h, g => by
  rw [ref15_short, ref15_short_body, shortB, joinK, fuel0]
  have := short_loop x g.len (ref15_short n) (shortB d) (fun y hy => short_eq15 n d y (by omega) (deepN_sub h hy) (g.sub hy)) x.nodes [] rfl
  by_cases h1 : x.step.strokes.length ≤ 40
  · by_cases h2 : x.name.length ≤ 60
    · rw [if_neg (by simp; omega), decide_eq_true h1, decide_eq_true h2]
      exact this
    · rw [if_pos (by simp; omega), decide_eq_false h2]
      simp
  · rw [if_pos (by simp; omega), decide_eq_false h1]
    simp
theorem shortB_ok : ∀ (d : Nat) (x : Node), shortB d x = true → ShortN x
 | 0, x, h => by cases h
 | d + 1, x, h => by
  rw [shortB, Bool.and_eq_true, Bool.and_eq_true, decide_eq_true_eq, decide_eq_true_eq, List.all_eq_true] at h
  exact .mk x h.1.1 h.1.2 fun y hy => shortB_ok d y (h.2 y hy)
theorem few15_eq (x : Node) (g : GoodN x) : ∃ b, ref15_Few x = some b ∧ (b = true → lightB x = true → ShortN x ∧ cntT 16 x ≤ 30) := by
 rw [ref15_Few, show (512 : Int) = ((512 : Nat) : Int) from rfl, rcount_eq 600 512 x (by omega) (by omega) g, Option.bind_some, show (40 : Int) = ((40 : Nat) : Int) from rfl, rdeep_eq 600 40 x (by omega) (by omega) g]
 by_cases h1 : (decide (((min (cntT 512 x) (512 + 1) : Nat) : Int) > 30) && decide (((min (cntT 512 x) (512 + 1) : Nat) : Int) ≤ 256) || decide (((min (cntT 512 x) (512 + 1) : Nat) : Int) > ((512 : Nat) : Int))) = true
 · rw [if_pos h1]
   exact ⟨false, rfl, by simp⟩
 · rw [if_neg h1, Option.bind_some, Option.bind_some]
   cases hd : deepN 40 x with
   | false => exact ⟨false, rfl, by simp⟩
   | true =>
    rw [if_neg (by simp), short_eq15 600 40 x (by omega) hd g]
    have key : lightB x = true → cntT 512 x = cntT 16 x ∧ cntT 16 x ≤ 256 := fun hl => by
     obtain ⟨a, b⟩ := light_iff.1 hl
     have e1 := cntT_deep (d := 15) (e := 512) (x := x) (by omega) b
     have e2 := cntT_deep (d := 15) (e := 16) (x := x) (by omega) b
     exact ⟨by omega, a⟩
    by_cases h2 : decide (((min (cntT 512 x) (512 + 1) : Nat) : Int) > 256) = true
    · rw [if_pos h2]
      refine ⟨true, rfl, fun _ hl => ?_⟩
      have := key hl
      rw [decide_eq_true_eq] at h2
      omega
    · rw [if_neg h2]
      refine ⟨_, rfl, fun hb hl => ⟨shortB_ok 40 x hb, ?_⟩⟩
      have := key hl
      simp only [Bool.or_eq_true, Bool.and_eq_true, decide_eq_true_eq, not_or, not_and] at h1
      rw [decide_eq_true_eq] at h2
      omega
theorem fewNames_loop (l : List (List UInt8)) (K : Option Bool) (hl : l.length ≤ maxLen) : ∀ (r pre : List (List UInt8)), l = pre ++ r → ref15_FewNames_loop1 l K (r.length + 1) (pre.length : Int) = if (r.take (20 - pre.length)).all (fun s => decide (s.length ≤ 60)) = true then K else some false
 | [], pre, e => by
  rw [ref15_FewNames_loop1, e, ge_end, Bool.false_and, if_neg (by simp), if_pos (by simp)]
 | y :: r, pre, e => by
  have ih := fewNames_loop l K hl r (pre ++ [y]) (by rw [e, mid_cons])
  have hw := wrap_max e hl
  rw [List.length_cons, ref15_FewNames_loop1, e, lt_mid, Bool.true_and]
  by_cases h20 : pre.length < 20
  · rw [if_pos (by rw [decide_eq_true_eq]; omega), at?_mid, Option.bind_some, hw, ← e, ih]
    have e2 : (y :: r).take (20 - pre.length) = y :: r.take (20 - (pre ++ [y]).length) := by
     rw [show 20 - pre.length = (20 - (pre ++ [y]).length) + 1 by simp; omega, List.take_succ_cons]
    rw [e2, List.all_cons]
    by_cases h : y.length ≤ 60
    · rw [if_neg (by rw [decide_eq_true_eq]; omega), decide_eq_true h, Bool.true_and]
    · rw [if_pos (by rw [decide_eq_true_eq]; omega), decide_eq_false h, Bool.false_and, if_neg (by simp)]
  · rw [if_neg (by rw [decide_eq_true_eq]; omega), show 20 - pre.length = 0 by omega, if_pos (by simp)]
theorem fewNames_eq (l : List (List UInt8)) (hl : l.length ≤ maxLen) : ∃ b, ref15_FewNames l = some b ∧ (b = true → l.length ≤ 20 ∧ ∀ s ∈ l, s.length ≤ 60) := by
 rw [ref15_FewNames, joinK]
 have := fewNames_loop l (some (decide ((l.length : Int) ≤ 20))) hl l [] rfl
 refine ⟨_, this.trans (by rw [← apply_ite some]), fun h => ?_⟩
 split at h
 · rename_i hh
   rw [decide_eq_true_eq] at h
   have h20 : l.length ≤ 20 := by omega
   rw [List.take_of_length_le (by simpa using h20)] at hh
   exact ⟨h20, fun s hs => by simpa using List.all_eq_true.1 hh s hs⟩
 · cases h
theorem law_few (x : Node) (on : List (List UInt8)) (g : GoodN x) (hl : on.length ≤ maxLen) : ∃ b, law15_few x on = some b ∧ (b = true → (lightB x = true → ShortN x ∧ cntT 16 x ≤ 30) ∧ on.length ≤ 20 ∧ ∀ s ∈ on, s.length ≤ 60) := by
 obtain ⟨b, h1, h2⟩ := few15_eq x g
 obtain ⟨c, h3, h4⟩ := fewNames_eq on hl
 rw [law15_few, h1, h3, Option.bind_some]
 cases b with
 | false => exact ⟨false, rfl, by simp⟩
 | true => exact ⟨c, rfl, fun h => ⟨h2 rfl, h4 h⟩⟩
def mot : Nat → Node → Motion
 | 0, _ => .list []
 | d + 1, x => if x.kind = 0 then .single x.step else if x.kind = 1 then .list (x.nodes.map (mot d)) else if x.kind = 2 then .repeat_ x.count (mot d (x.nodes.headD x)) else .choice x.name (mot d (x.nodes.headD x)) (mot d ((x.nodes.drop 1).headD x))
section
variable {d : Nat} {s : Step} {l : List Node} {c : Int} {y a b : Node} {n : List UInt8}
theorem mot_step : mot (d + 1) ⟨0, s, 0, [], []⟩ = .single s := by simp [mot]
theorem mot_list : mot (d + 1) ⟨1, ⟨[], 0⟩, 0, [], l⟩ = .list (l.map (mot d)) := by simp [mot]
theorem mot_rep : mot (d + 1) ⟨2, ⟨[], 0⟩, c, [], [y]⟩ = .repeat_ c (mot d y) := by simp [mot]
theorem mot_cho : mot (d + 1) ⟨3, ⟨[], 0⟩, 0, n, [a, b]⟩ = .choice n (mot d a) (mot d b) := by simp [mot]
end
theorem of_loop (x : Node) (hl : x.nodes.length ≤ 1000) (self : Node → Option Motion) (f : Node → Motion) (hs : ∀ y ∈ x.nodes, self y = some (f y)) (K : List Motion → Option Motion) :
 ∀ (r pre : List Node), x.nodes = pre ++ r → program_of_loop1 x self K (r.length + 1) (pre.length : Int) (pre.map f) = K (x.nodes.map f)
 | [], pre, e => by rw [program_of_loop1, e, ge_end, if_neg (by simp), List.append_nil]
 | y :: r, pre, e => by
  have ih := of_loop x hl self f hs K r (pre ++ [y]) (by rw [e, mid_cons])
  have hy : y ∈ x.nodes := by rw [e]; simp
  have hpl0 : x.nodes.length = pre.length + (r.length + 1) := by rw [e]; simp
  have hpl : pre.length ≤ 1000 := by omega
  have hw := wrap_mid (x := y) (r := r) (pre := pre) (by rw [← e]; omega)
  rw [List.length_cons, program_of_loop1]
  rw [show decide ((pre.length : Int) < (x.nodes.length : Int)) = true by rw [e]; exact lt_mid, if_pos rfl, show at? x.nodes (pre.length : Int) = some y by rw [e]; exact at?_mid, Option.bind_some, hs y hy, Option.bind_some, appO_ok (by simp; omega) (by decide), Option.bind_some, hw]
  rw [List.map_append] at ih
  exact ih
theorem of_eq : ∀ (d n : Nat) (x : Node), d ≤ n → Right d x → program_of n x = some (mot d x) := by
 intro d n x hn h
 induction h generalizing n with
 | step d s h =>
  obtain ⟨n, rfl⟩ : ∃ k, n = k + 1 := ⟨n - 1, by omega⟩
  rw [mot_step]
  rfl
 | list d l h hl k ih =>
  obtain ⟨n, rfl⟩ : ∃ k, n = k + 1 := ⟨n - 1, by omega⟩
  rw [program_of, program_of_body, joinK, fuel0, mot_list]
  have := of_loop ⟨1, ⟨[], 0⟩, 0, [], l⟩ (by show l.length ≤ 1000; omega) (program_of n) (mot d) (fun y hy => ih y hy n (by omega))
  exact this _ l [] rfl
 | rep d c y h0 h1 h ih =>
  obtain ⟨n, rfl⟩ : ∃ k, n = k + 1 := ⟨n - 1, by omega⟩
  rw [program_of, program_of_body, joinK, fuel0, mot_rep]
  have := of_loop ⟨2, ⟨[], 0⟩, c, [], [y]⟩ (by simp) (program_of n) (mot d) (fun z hz => by rw [List.mem_singleton.1 hz]; exact ih n (by omega))
  exact this _ [y] [] rfl
 | cho d nm a b h ha hb iha ihb =>
  obtain ⟨n, rfl⟩ : ∃ k, n = k + 1 := ⟨n - 1, by omega⟩
  rw [program_of, program_of_body, joinK, fuel0, mot_cho]
  have := of_loop ⟨3, ⟨[], 0⟩, 0, nm, [a, b]⟩ (by simp) (program_of n) (mot d) (fun z hz => by
   rcases List.mem_cons.1 hz with rfl | hz
   · exact iha n (by omega)
   · rw [List.mem_singleton.1 hz]; exact ihb n (by omega))
  exact this _ [a, b] [] rfl
theorem index_loop (l : List (List UInt8)) (s : List UInt8) (hl : l.length ≤ 1000000) : ∀ (r pre : List (List UInt8)), l = pre ++ r → ∃ i : Int, slices_Index_stringstring_loop1 l s (some (-1)) (r.length + 1) (pre.length : Int) = some i ∧ (0 ≤ i ↔ s ∈ r)
 | [], pre, e => by
  rw [slices_Index_stringstring_loop1, e, ge_end, if_neg (by simp)]
  exact ⟨-1, rfl, by simp⟩
 | y :: r, pre, e => by
  obtain ⟨i, h1, h2⟩ := index_loop l s hl r (pre ++ [y]) (by rw [e, mid_cons])
  have hw := wrap_mid (x := y) (r := r) (pre := pre) (by rw [← e]; omega)
  rw [List.length_cons, slices_Index_stringstring_loop1]
  rw [show decide ((pre.length : Int) < (l.length : Int)) = true by rw [e]; exact lt_mid, if_pos rfl, show at? l (pre.length : Int) = some y by rw [e]; exact at?_mid, Option.bind_some, hw, h1]
  by_cases h : s = y
  · rw [if_pos (by simpa using h)]
    exact ⟨_, rfl, by simp [h]⟩
  · rw [if_neg (by simpa using h)]
    exact ⟨i, rfl, by rw [h2]; simp [h]⟩
theorem contains_eq (l : List (List UInt8)) (s : List UInt8) (hl : l.length ≤ 1000000) : slices_Contains_stringstring l s = some (decide (s ∈ l)) := by
 obtain ⟨i, h1, h2⟩ := index_loop l s hl l [] rfl
 rw [slices_Contains_stringstring, slices_Index_stringstring, joinK, fuel0]
 rw [show (0 : Int) = ((([] : List (List UInt8)).length : Nat) : Int) from rfl, h1, Option.bind_some]
 congr 1
 rw [Bool.eq_iff_iff, decide_eq_true_eq, decide_eq_true_eq]
 exact h2
def stepsN (on : List (List UInt8)) : Nat → Node → List Step
 | 0, _ => []
 | d + 1, x => if x.kind = 0 then [x.step] else if x.kind = 1 then x.nodes.flatMap (stepsN on d) else if x.kind = 2 then (List.replicate x.count.toNat (stepsN on d (x.nodes.headD x))).flatten
  else if x.name ∈ on then stepsN on d (x.nodes.headD x) else stepsN on d ((x.nodes.drop 1).headD x)
section
variable {on : List (List UInt8)} {d : Nat} {s : Step} {l : List Node} {c : Int} {y a b : Node} {n : List UInt8}
theorem stepsN_step : stepsN on (d + 1) ⟨0, s, 0, [], []⟩ = [s] := by simp [stepsN]
theorem stepsN_list : stepsN on (d + 1) ⟨1, ⟨[], 0⟩, 0, [], l⟩ = l.flatMap (stepsN on d) := by simp [stepsN]
theorem stepsN_rep : stepsN on (d + 1) ⟨2, ⟨[], 0⟩, c, [], [y]⟩ = (List.replicate c.toNat (stepsN on d y)).flatten := by simp [stepsN]
theorem stepsN_cho : stepsN on (d + 1) ⟨3, ⟨[], 0⟩, 0, n, [a, b]⟩ = if n ∈ on then stepsN on d a else stepsN on d b := by simp [stepsN]
end
theorem stepsN_good (on : List (List UInt8)) {d : Nat} {x : Node} (h : Right d x) : ∀ s ∈ stepsN on d x, chk s = 0 := by
 induction h with
 | step d s h => intro z hz; rw [stepsN_step, List.mem_singleton] at hz; rw [hz]; exact h
 | list d l h hl k ih => intro z hz; rw [stepsN_list] at hz; obtain ⟨y, hy, hz⟩ := List.mem_flatMap.1 hz; exact ih y hy z hz
 | rep d c y h0 h1 h ih => intro z hz; rw [stepsN_rep] at hz; obtain ⟨l, hl, hz⟩ := List.mem_flatten.1 hz; rw [(List.mem_replicate.1 hl).2] at hz; exact ih z hz
 | cho d n a b h ha hb iha ihb =>
  intro z hz
  rw [stepsN_cho] at hz
  split at hz
  · exact iha z hz
  · exact ihb z hz
theorem rng2_list {σ : Type} (step : σ → Step → Option (Bool × σ)) : program_list_steps_1_rng2 step = step := by
 funext q x
 unfold program_list_steps_1_rng2
 cases step q x with
 | none => rfl
 | some r => obtain ⟨b, s⟩ := r; cases b <;> rfl
theorem rng2_rep {σ : Type} (step : σ → Step → Option (Bool × σ)) : program_repeat_steps_1_rng2 step = step := by
 funext q x
 unfold program_repeat_steps_1_rng2
 cases step q x with
 | none => rfl
 | some r => obtain ⟨b, s⟩ := r; cases b <;> rfl
theorem taken_eq (nm : List UInt8) (a b : Motion) (on : List (List UInt8)) (hon : on.length ≤ 1000000) : program_choice_taken (MChoice.mk nm a b) on = some (if nm ∈ on then a else b) := by
 rw [program_choice_taken, contains_eq on nm hon, Option.bind_some]
 by_cases hm : nm ∈ on
 · rw [if_pos (by simpa using hm), if_pos hm]
 · rw [if_neg (by simpa using hm), if_neg hm]
theorem steps_eq (on : List (List UInt8)) (hon : on.length ≤ 1000000) : ∀ (d n : Nat) (x : Node), d ≤ n → Right d x → ∃ d' x', d' ≤ d ∧ Right d' x' ∧ (mot d' x').isChoice = false ∧ steps n (mot d x) on = some (mot d' x') ∧ stepsN on d' x' = stepsN on d x := by
 intro d n x hn h
 induction h generalizing n with
 | step d s h =>
  obtain ⟨n, rfl⟩ : ∃ k, n = k + 1 := ⟨n - 1, by omega⟩
  exact ⟨d + 1, _, Nat.le_refl _, .step d s h, by rw [mot_step]; rfl, by rw [mot_step]; rfl, rfl⟩
 | list d l h hl k ih =>
  obtain ⟨n, rfl⟩ : ∃ k, n = k + 1 := ⟨n - 1, by omega⟩
  exact ⟨d + 1, _, Nat.le_refl _, .list d l h hl k, by rw [mot_list]; rfl, by rw [mot_list]; rfl, rfl⟩
 | rep d c y h0 h1 h ih =>
  obtain ⟨n, rfl⟩ : ∃ k, n = k + 1 := ⟨n - 1, by omega⟩
  exact ⟨d + 1, _, Nat.le_refl _, .rep d c y h0 h1 h, by rw [mot_rep]; rfl, by rw [mot_rep]; rfl, rfl⟩
 | cho d nm a b h ha hb iha ihb =>
  obtain ⟨n, rfl⟩ : ∃ k, n = k + 1 := ⟨n - 1, by omega⟩
  have e : ∀ m m', steps (n + 1) (.choice nm m m') on = (program_choice_taken (MChoice.mk nm m m') on).bind fun r => steps n r on := fun m m' => rfl
  rw [mot_cho, e, taken_eq nm _ _ on hon, Option.bind_some, stepsN_cho]
  by_cases hm : nm ∈ on
  · rw [if_pos hm, if_pos hm]
    obtain ⟨d', x', h1, h2, h3, h4, h5⟩ := iha n (by omega)
    exact ⟨d', x', by omega, h2, h3, h4, h5⟩
  · rw [if_neg hm, if_neg hm]
    obtain ⟨d', x', h1, h2, h3, h4, h5⟩ := ihb n (by omega)
    exact ⟨d', x', by omega, h2, h3, h4, h5⟩
section
variable {σ : Type} (step : σ → Step → Option (Bool × σ)) (on : List (List UInt8)) (self : (σ → Step → Option (Bool × σ)) → Motion → List (List UInt8) → σ → Option (Bool × σ))
theorem list_loop (l : List Node) (f : Node → Motion) (F : Node → List Step) (hl : l.length ≤ 1000) (hs : ∀ y ∈ l, ∀ z, ((steps 600 (f y) on).bind fun r1 => self (program_list_steps_1_rng2 step) r1 on z) = runL step (F y) z) :
 ∀ (r pre : List Node) (z : σ), l = pre ++ r → program_list_steps_1_loop1 (MList.mk (l.map f)) on self step (r.length + 1) z (pre.length : Int) = runL step (r.flatMap F) z
 | [], pre, z, e => by
  rw [program_list_steps_1_loop1, if_neg (by rw [e]; simp)]
  rfl
 | y :: r, pre, z, e => by
  have ih := fun z => list_loop l f F hl hs r (pre ++ [y]) z (by rw [e, mid_cons])
  have hy : y ∈ l := by rw [e]; simp
  have hpl : l.length = pre.length + (r.length + 1) := by rw [e]; simp
  have hw := wrap_mid (x := y) (r := r) (pre := pre) (by rw [← e]; omega)
  have hat : at? (l.map f) (pre.length : Int) = some (f y) := by
   have := at?_mid (pre := pre.map f) (x := f y) (r := r.map f)
   rw [List.length_map] at this
   rw [e, List.map_append, List.map_cons]
   exact this
  rw [List.length_cons, program_list_steps_1_loop1]
  show (if decide ((pre.length : Int) < ((l.map f).length : Int)) = true then (at? (l.map f) (pre.length : Int)).bind _ else _) = _
  rw [if_pos (by rw [List.length_map, decide_eq_true_eq]; omega), hat, Option.bind_some, hw, ← Option.bind_assoc, hs y hy, List.flatMap_cons, runL_append]
  congr 1
  funext q
  split
  · exact ih q.2
  · rfl
theorem rep_loop (c : Int) (p : Motion) (L : List Step) (hs : ∀ z, ((steps 600 p on).bind fun r1 => self (program_repeat_steps_1_rng2 step) r1 on z) = runL step L z) :
 ∀ (m : Nat) (i : Int) (z : σ), 0 ≤ i → i + m = c → c ≤ 1000 → program_repeat_steps_1_loop1 (MRepeat.mk c p) on self step (m + 1) z i = runL step (List.replicate m L).flatten z
 | 0, i, z, h0, h, hc => by
  rw [program_repeat_steps_1_loop1]
  show (if decide (i < c) = true then _ else _) = _
  rw [if_neg (by rw [decide_eq_true_eq]; omega)]
  rfl
 | m + 1, i, z, h0, h, hc => by
  have ih := fun z => rep_loop c p L hs m (i + 1) z (by omega) (by omega) hc
  rw [program_repeat_steps_1_loop1]
  show (if decide (i < c) = true then (steps 600 p on).bind _ else _) = _
  rw [if_pos (by rw [decide_eq_true_eq]; omega), wrap64 (by omega) (by omega), ← Option.bind_assoc, hs, List.replicate_succ, List.flatten_cons, runL_append]
  congr 1
  funext q
  split
  · exact ih q.2
  · rfl
end
theorem iter_eq {σ : Type} (on : List (List UInt8)) (hon : on.length ≤ 1000000) : ∀ (d n : Nat) (x : Node) (step : σ → Step → Option (Bool × σ)) (z : σ), d ≤ n → d ≤ 600 → Right d x → (mot d x).isChoice = false → iterRun n step (mot d x) on z = runL step (stepsN on d x) z := by
 intro d
 induction d using Nat.strongRecOn with
 | _ d ih =>
  intro n x step z hn hd h hc
  have sub : ∀ (e m : Nat) (y : Node) (z : σ), e < d → e ≤ m → Right e y → ((steps 600 (mot e y) on).bind fun r1 => iterRun m step r1 on z) = runL step (stepsN on e y) z := fun e m y z he hm hy => by
   obtain ⟨d', x', h1, h2, h3, h4, h5⟩ := steps_eq on hon e 600 y (by omega) hy
   rw [h4, Option.bind_some, ih d' (by omega) m x' step z (by omega) (by omega) h2 h3, h5]
  cases h with
  | step d s h =>
   obtain ⟨n, rfl⟩ : ∃ k, n = k + 1 := ⟨n - 1, by omega⟩
   rw [mot_step, stepsN_step, runL]
   show program_single_steps_1 step (MSingle.mk s) z = _
   rfl
  | list d l h hl k =>
   obtain ⟨n, rfl⟩ : ∃ k, n = k + 1 := ⟨n - 1, by omega⟩
   rw [mot_list, stepsN_list]
   show program_list_steps_1 step (iterRun n) (MList.mk (l.map (mot d))) on z = _
   rw [program_list_steps_1]
   show program_list_steps_1_loop1 (MList.mk (l.map (mot d))) on (iterRun n) step (Int.toNat (((l.map (mot d)).length : Int) - 0) + 1) z 0 = _
   rw [fuel0, List.length_map]
   exact list_loop step on (iterRun n) l (mot d) (stepsN on d) (by omega) (fun y hy z => by rw [rng2_list]; exact sub d n y z (by omega) (by omega) (k y hy)) l [] z rfl
  | rep d c y h0 h1 h =>
   obtain ⟨n, rfl⟩ : ∃ k, n = k + 1 := ⟨n - 1, by omega⟩
   rw [mot_rep, stepsN_rep]
   show program_repeat_steps_1 step (iterRun n) (MRepeat.mk c (mot d y)) on z = _
   rw [program_repeat_steps_1]
   show program_repeat_steps_1_loop1 (MRepeat.mk c (mot d y)) on (iterRun n) step (Int.toNat (c - 0) + 1) z 0 = _
   rw [show c - 0 = c by omega]
   exact rep_loop step on (iterRun n) c (mot d y) (stepsN on d y) (fun z => by rw [rng2_rep]; exact sub d n y z (by omega) (by omega) h) c.toNat 0 z (by omega) (by omega) (by omega)
  | cho d nm a b h ha hb => rw [mot_cho] at hc; cases hc
theorem unf_run : ∀ (L acc : List Step), acc.length ≤ 64 → (∀ s ∈ L, s.strokes.length ≤ 1000) → ∃ q, runL program_unfolded_rng1 L (acc, 0, []) = some q ∧ (if acc.length + L.length ≤ 64 then q = (true, (acc ++ L, 0, [])) else q.1 = false ∧ q.2.2 = (12, []))
 | [], acc, h, _ => ⟨_, rfl, by rw [if_pos (by simpa using h)]; simp⟩
 | a :: L, acc, h, hs => by
  rw [runL, program_unfolded_rng1]
  by_cases h1 : acc.length = 64
  · rw [if_pos (by simp [h1]), Option.bind_some]
    exact ⟨_, rfl, by rw [if_neg (by simp; omega)]; exact ⟨rfl, rfl⟩⟩
  · obtain ⟨q, h2, h3⟩ := unf_run L (acc ++ [a]) (by simp; omega) fun s hs' => hs s (List.mem_cons_of_mem _ hs')
    rw [if_neg (by simp; omega), appO_ok (by have := hs a (List.mem_cons_self ..); simp; omega) (by decide), Option.bind_some, appO_ok (by simp; omega) (by decide), Option.bind_some, Option.bind_some, if_pos rfl]
    refine ⟨q, h2, ?_⟩
    rw [List.length_append, List.append_assoc] at h3
    simp only [List.length_cons, List.length_nil, List.cons_append, List.nil_append] at h3 ⊢
    by_cases hh : acc.length + (L.length + 1) ≤ 64
    · rw [if_pos hh]; rw [if_pos (by omega)] at h3; exact h3
    · rw [if_neg hh]; rw [if_neg (by omega)] at h3; exact h3
def unfN (on : List (List UInt8)) (x : Node) : List Step × Int := if (stepsN on 16 x).length ≤ 64 then (stepsN on 16 x, 0) else ([], 12)
theorem lunf_eq (on : List (List UInt8)) (hon : on.length ≤ 1000000) (x : Node) (h : Right 16 x) : program_unfolded x on = some (unfN on x) := by
 obtain ⟨d', x', h1, h2, h3, h4, h5⟩ := steps_eq on hon 16 600 x (by omega) h
 obtain ⟨q, h6, h7⟩ := unf_run (stepsN on 16 x) [] (by simp) fun s hs => by have := (chk_zero.1 (stepsN_good on h s hs)).few; omega
 rw [program_unfolded, of_eq 16 600 x (by omega) h, Option.bind_some, h4, Option.bind_some, iter_eq on hon d' 600 x' _ _ (by omega) (by omega) h2 h3, h5, h6, Option.bind_some, unfN]
 rw [List.length_nil, Nat.zero_add, List.nil_append] at h7
 by_cases hl : (stepsN on 16 x).length ≤ 64
 · rw [if_pos hl] at h7 ⊢
   rw [h7]
   rfl
 · rw [if_neg hl] at h7 ⊢
   obtain ⟨b, a1, a2, a3⟩ := q
   obtain ⟨rfl, h8⟩ := h7
   cases h8
   rfl
theorem awake_true : law15_awake = some true := by kernel_rfl
def seqN (on : List (List UInt8)) (x : Node) : Sequence × Int :=
 if (unfN on x).2 ≠ 0 then (⟨0, []⟩, (unfN on x).2) else if checkE ⟨ofF 0 (flat (unfN on x).1), (unfN on x).1⟩ ≠ 0 then (⟨0, []⟩, checkE ⟨ofF 0 (flat (unfN on x).1), (unfN on x).1⟩) else (⟨ofF 0 (flat (unfN on x).1), (unfN on x).1⟩, 0)
theorem unfN_good (on : List (List UInt8)) {x : Node} (h : Right 16 x) : (unfN on x).1.length ≤ 64 ∧ ∀ s ∈ (unfN on x).1, GoodS s := by
 unfold unfN
 split
 · rename_i hl
   exact ⟨hl, fun s hs => chk_zero.1 (stepsN_good on h s hs)⟩
 · exact ⟨by simp, fun s hs => by cases hs⟩
def ifOk {α : Type} (x : Node) (z : α) (r : α × Int) : α × Int := if checkN x ≠ 0 then (z, checkN x) else r
section
variable (x : Node) (g : GoodN x) (hN : lightB x = true → NamOk x) (on : List (List UInt8)) (hon : on.length ≤ 1000000)
include g hN
theorem ok_of {α : Type} {f : Option (α × Int)} {z : α} {r : α × Int} (k : Right 16 x → cntT 16 x ≤ 256 → f = some r) (e : Int) (he : e = checkN x) : (if (e != 0) = true then some (z, e) else f) = some (ifOk x z r) := by
 subst he
 unfold ifOk
 by_cases h : checkN x = 0
 · rw [if_neg (by simpa using h), if_neg (by simpa using h)]
   exact k (check_right.1 h).1 (check_right.1 h).2
 · rw [if_pos (by simpa using h), if_pos h]
include hon
theorem lUnfold_eq : program_Unfold x on = some (ifOk x [] (unfN on x)) := by
 rw [program_Unfold, lcheckN_eq x g hN, Option.bind_some]
 refine ok_of x g hN (fun h _ => ?_) _ rfl
 rw [lunf_eq on hon x h, Option.bind_some]
end
theorem sameQ (l : List Step) (hl : l.length ≤ 64) (hg : ∀ s ∈ l, GoodS s) : ref13_SameSteps l l = some true :=
 sameL_eq l (by omega) fun s hs => by have := (hg s hs).few; omega
inductive StrOk : Node → Prop
 | mk (x : Node) (h : x.step.strokes.length ≤ 100000) (h2 : x.nodes.length ≤ maxLen) (k : ∀ y ∈ x.nodes, StrOk y) : StrOk x
theorem StrOk.here {x : Node} (h : StrOk x) : x.step.strokes.length ≤ 100000 ∧ x.nodes.length ≤ maxLen := by cases h with | mk _ a b _ => exact ⟨a, b⟩
theorem StrOk.sub {x y : Node} (h : StrOk x) (hy : y ∈ x.nodes) : StrOk y := by cases h with | mk _ _ _ k => exact k y hy
theorem ShortN.str {x : Node} (h : ShortN x) (g : GoodN x) : StrOk x := by
 induction h with
 | mk x h1 h2 k ih => exact .mk x (by omega) g.len fun y hy => ih y hy (g.sub hy)
section
variable {d : Nat} {s : Step} {l : List Node} {c : Int} {y a b : Node} {n : List UInt8}
end
theorem sum_mul {α : Type} {f g : α → Nat} {m : Nat} {l : List α} (h : ∀ y ∈ l, f y ≤ m * g y) : (l.map f).sum ≤ m * (l.map g).sum := by
 induction l with
 | nil => simp
 | cons a l ih =>
  have h1 := h a (List.mem_cons_self ..)
  have h2 := ih fun y hy => h y (List.mem_cons_of_mem _ hy)
  rw [List.map_cons, List.map_cons, List.sum_cons, List.sum_cons, Nat.mul_add]
  omega
section
variable (x : Node) (g : GoodN x) (hN : lightB x = true → NamOk x)
include g hN
end
abbrev Txt := List UInt8
def namesN : Nat → Node → List Txt
 | 0, x => if x.kind = 3 then [x.name] else []
 | d + 1, x => (if x.kind = 3 then [x.name] else []) ++ x.nodes.flatMap (namesN d)
theorem inputs_run : ∀ (L : List (Int × Node)) (acc : List Txt), acc.length + L.length ≤ 100000 → runL program_inputs_rng1 L acc = some (true, acc ++ L.flatMap fun a => if a.2.kind = 3 then [a.2.name] else [])
 | [], acc, _ => by simp [runL]
 | a :: L, acc, h => by
  rw [List.length_cons] at h
  rw [runL, program_inputs_rng1, joinK]
  by_cases h3 : a.2.kind = 3
  · rw [if_pos (by simpa using h3), appO_ok (by simp; omega) (by decide), Option.bind_some, Option.bind_some, if_pos rfl, inputs_run L (acc ++ [a.2.name]) (by simp; omega), List.flatMap_cons, if_pos h3]
    simp
  · rw [if_neg (by simpa using h3), Option.bind_some, if_pos rfl, inputs_run L acc (by omega), List.flatMap_cons, if_neg h3]
    simp
theorem namesN_pre : ∀ (m : Nat) (k : Int) (x : Node), (preL m k x).flatMap (fun a => if a.2.kind = 3 then [a.2.name] else []) = namesN m x
 | 0, k, x => by simp [preL, namesN]
 | m + 1, k, x => by
  rw [preL, namesN, List.flatMap_cons, List.flatMap_assoc]
  congr 1
  induction x.nodes with
  | nil => rfl
  | cons y r ih => rw [List.flatMap_cons, List.flatMap_cons, ih, namesN_pre m (k + 1) y]
theorem namesN_len : ∀ (d : Nat) (x : Node), (namesN d x).length ≤ cntT d x
 | 0, x => by rw [namesN, cntT]; split <;> simp
 | d + 1, x => by
  rw [namesN, cntT, List.length_append, List.length_flatMap]
  have h1 : (x.nodes.map fun y => (namesN d y).length).sum ≤ 1 * (x.nodes.map (cntT d)).sum := sum_mul fun y _ => by have := namesN_len d y; omega
  have h2 : (if x.kind = 3 then [x.name] else []).length ≤ 1 := by split <;> simp
  omega
def Up (l : List Txt) : Prop := l.Pairwise (· < ·)
theorem compact_props (zs : List Txt) (hs : zs.Pairwise (· ≤ ·)) : ∀ m, m ≤ zs.length → (∀ x, x ∈ Go.Lib.compactUpTo zs.toArray m ↔ x ∈ zs.take m) ∧ Up (Go.Lib.compactUpTo zs.toArray m)
 | 0, _ => by simp [Go.Lib.compactUpTo, Up]
 | m + 1, hm => by
  obtain ⟨h1, h2⟩ := compact_props zs hs m (by omega)
  have hm' : m < zs.length := by omega
  have hd : zs.toArray[m]! = zs[m] := by simp [hm']
  have ht : zs.take (m + 1) = zs.take m ++ [zs[m]] := by rw [List.take_add_one, List.getElem?_eq_getElem hm']; rfl
  have hle : ∀ x ∈ zs.take m, x ≤ zs[m] := fun x hx => by
   obtain ⟨i, hi, rfl⟩ := List.getElem_of_mem hx
   rw [List.getElem_take]
   rw [List.length_take] at hi
   exact List.pairwise_iff_getElem.1 hs i m (by omega) hm' (by omega)
  rw [Go.Lib.compactUpTo_succ, hd, ht]
  by_cases hk : Go.Lib.keeps zs.toArray m = true
  · rw [if_pos hk]
    refine ⟨fun x => by rw [List.mem_append, List.mem_append, h1], List.pairwise_append.2 ⟨h2, List.pairwise_singleton .., fun x hx y hy => ?_⟩⟩
    rw [List.mem_singleton.1 hy]
    have hx' := (h1 x).1 hx
    refine Std.lt_of_le_of_ne (hle x hx') fun e => ?_
    unfold Go.Lib.keeps at hk
    rw [decide_eq_true_eq] at hk
    rcases hk with h0 | hk
    · subst h0; simp at hx'
    · apply hk
      have hp : 0 < m := by
       cases m with
       | zero => simp at hx'
       | succ m => omega
      have hd2 : zs.toArray[m - 1]! = zs[m - 1] := by simp [show m - 1 < zs.length by omega]
      rw [hd, hd2]
      obtain ⟨i, hi, hxe⟩ := List.getElem_of_mem hx'
      rw [List.getElem_take] at hxe
      rw [List.length_take] at hi
      have a1 : zs[i] ≤ zs[m - 1] := by
       by_cases q : i = m - 1
       · subst q; exact List.le_refl _
       · exact List.pairwise_iff_getElem.1 hs i (m - 1) (by omega) (by omega) (by omega)
      have a2 : zs[m - 1] ≤ zs[m] := List.pairwise_iff_getElem.1 hs (m - 1) m (by omega) hm' (by omega)
      rw [hxe, e] at a1
      exact List.le_antisymm a1 a2
  · rw [if_neg hk, List.append_nil]
    refine ⟨fun x => ?_, h2⟩
    rw [List.mem_append, h1, List.mem_singleton]
    refine ⟨.inl, fun q => q.elim id fun e => ?_⟩
    have hk' : Go.Lib.keeps zs.toArray m = false := by simpa using hk
    unfold Go.Lib.keeps at hk'
    rw [decide_eq_false_iff_not, not_or, Classical.not_not] at hk'
    have hp : 0 < m := by omega
    have hd2 : zs.toArray[m - 1]! = zs[m - 1] := by simp [show m - 1 < zs.length by omega]
    rw [hd, hd2] at hk'
    rw [e, hk'.2]
    refine List.mem_iff_getElem.2 ⟨m - 1, by rw [List.length_take]; omega, ?_⟩
    rw [List.getElem_take]
def setN (l : List Txt) : List Txt := Go.Lib.compact (l.mergeSort fun x y => decide (x ≤ y))
theorem setN_props (l : List Txt) : (∀ x, x ∈ setN l ↔ x ∈ l) ∧ Up (setN l) := by
 have hs : (l.mergeSort fun x y => decide (x ≤ y)).Pairwise (· ≤ ·) := by
  have := List.pairwise_mergeSort (le := fun x y : Txt => decide (x ≤ y)) (fun a b c h k => by rw [decide_eq_true_eq] at *; exact List.le_trans h k) (fun a b => by rw [Bool.or_eq_true, decide_eq_true_eq, decide_eq_true_eq]; exact List.le_total a b) l
  exact this.imp fun h => by simpa using h
 obtain ⟨h1, h2⟩ := compact_props _ hs _ (Nat.le_refl _)
 refine ⟨fun x => ?_, h2⟩
 unfold setN Go.Lib.compact
 rw [h1, List.take_length, List.mem_mergeSort]
theorem setN_len (l : List Txt) : (setN l).length ≤ l.length := by
 unfold setN Go.Lib.compact Go.Lib.compactUpTo
 rw [List.length_map]
 refine Nat.le_trans (List.length_filter_le ..) ?_
 simp
def inpN (x : Node) : List Txt := setN (namesN 16 x)
theorem linputs_eq (x : Node) (g : GoodN x) (hc : cntT 16 x ≤ 256) : program_inputs x = some (inpN x) := by
 have hl := namesN_len 16 x
 rw [program_inputs, preorder_eq _ x _ g, inputs_run _ _ (by rw [preL_len]; simp; omega), Option.bind_some, if_pos rfl, List.nil_append, namesN_pre]
 show (sortS (namesN 16 x)).bind _ = _
 rw [sortS, if_pos (by omega), Option.bind_some, compactS, if_pos (by rw [List.length_mergeSort]; omega), Option.bind_some]
 rfl
section
variable (x : Node) (g : GoodN x) (hN : lightB x = true → NamOk x)
include g hN
theorem lInputs_eq : program_Inputs x = some (ifOk x [] (inpN x, 0)) := by
 rw [program_Inputs, lcheckN_eq x g hN, Option.bind_some]
 refine ok_of x g hN (fun h hc => ?_) _ rfl
 rw [linputs_eq x g hc, Option.bind_some]
end
theorem inpN_len {x : Node} (hc : cntT 16 x ≤ 256) : (inpN x).length ≤ 256 := by
 have h1 := setN_len (namesN 16 x)
 have h2 := namesN_len 16 x
 unfold inpN
 omega
section
variable (x : Node) (g : GoodN x) (hN : lightB x = true → NamOk x)
include g hN
end
theorem stepsN_congr {on on' : List Txt} {d : Nat} {x : Node} (h : Right d x) : (∀ s ∈ namesN d x, (s ∈ on ↔ s ∈ on')) → stepsN on d x = stepsN on' d x := by
 induction h with
 | step d s h => intro _; rw [stepsN_step, stepsN_step]
 | list d l h hl k ih =>
  intro hs
  rw [stepsN_list, stepsN_list]
  have key : ∀ q : List Node, (∀ y ∈ q, y ∈ l) → q.flatMap (stepsN on d) = q.flatMap (stepsN on' d) := by
   intro q
   induction q with
   | nil => intro _; rfl
   | cons y q ihq =>
    intro hq
    rw [List.flatMap_cons, List.flatMap_cons, ihq fun z hz => hq z (List.mem_cons_of_mem _ hz)]
    rw [ih y (hq y (List.mem_cons_self ..)) fun s hs' => hs s (by rw [namesN]; exact List.mem_append_right _ (List.mem_flatMap.2 ⟨y, hq y (List.mem_cons_self ..), hs'⟩))]
  exact key l fun y hy => hy
 | rep d c y h0 h1 h ih =>
  intro hs
  rw [stepsN_rep, stepsN_rep, ih fun s hs' => hs s (by rw [namesN]; exact List.mem_append_right _ (List.mem_flatMap.2 ⟨y, by simp, hs'⟩))]
 | cho d n a b h ha hb iha ihb =>
  intro hs
  have hn := hs n (by rw [namesN]; exact List.mem_append_left _ (by simp))
  rw [stepsN_cho, stepsN_cho, iha fun s hs' => hs s (by rw [namesN]; exact List.mem_append_right _ (List.mem_flatMap.2 ⟨a, by simp, hs'⟩)), ihb fun s hs' => hs s (by rw [namesN]; exact List.mem_append_right _ (List.mem_flatMap.2 ⟨b, by simp, hs'⟩))]
  by_cases hm : n ∈ on
  · rw [if_pos hm, if_pos (hn.1 hm)]
  · rw [if_neg hm, if_neg fun q => hm (hn.2 q)]
theorem seqN_congr {on on' : List Txt} {x : Node} (h : Right 16 x) (k : ∀ s ∈ namesN 16 x, (s ∈ on ↔ s ∈ on')) : unfN on x = unfN on' x ∧ seqN on x = seqN on' x := by
 have e : unfN on x = unfN on' x := by rw [unfN, unfN, stepsN_congr h k]
 exact ⟨e, by rw [seqN, seqN, e]⟩
theorem right15_eq (x : Node) (on : List Txt) (g : GoodN x) (hl : on.length ≤ maxLen) : ∃ b, law15_right x on = some b ∧ (b = true → Right 16 x ∧ cntT 16 x ≤ 30 ∧ checkN x = 0 ∧ NamOk x ∧ StrOk x ∧ on.length ≤ 20) := by
 obtain ⟨b, h1, h2⟩ := law_few x on g hl
 rw [law15_right, h1, Option.bind_some]
 cases b with
 | false => exact ⟨false, rfl, fun h => by cases h⟩
 | true =>
  obtain ⟨h3, h4, _⟩ := h2 rfl
  rw [if_pos rfl, rcheckN_eq x g (fun q => (h3 q).1.nam), Option.bind_some, Option.bind_some]
  refine ⟨_, rfl, fun h => ?_⟩
  have hc : checkN x = 0 := by simpa using h
  have hr := check_right.1 hc
  have hq := h3 (light_iff.2 ⟨hr.2, right_deep hr.1⟩)
  exact ⟨hr.1, hq.2, hc, hq.1.nam, hq.1.str g, h4⟩
theorem steps_up (on : List Txt) {d : Nat} {x : Node} (h : Right d x) : stepsN on (d + 1) x = stepsN on d x := by
 induction h with
 | step d s h => rw [stepsN_step, stepsN_step]
 | list d l h hl k ih =>
  rw [stepsN_list, stepsN_list]
  have key : ∀ q : List Node, (∀ y ∈ q, y ∈ l) → q.flatMap (stepsN on (d + 1)) = q.flatMap (stepsN on d) := by
   intro q
   induction q with
   | nil => intro _; rfl
   | cons y q ihq => intro hq; rw [List.flatMap_cons, List.flatMap_cons, ihq fun z hz => hq z (List.mem_cons_of_mem _ hz), ih y (hq y (List.mem_cons_self ..))]
  exact key l fun y hy => hy
 | rep d c y h0 h1 h ih => rw [stepsN_rep, stepsN_rep, ih]
 | cho d n a b h ha hb iha ihb => rw [stepsN_cho, stepsN_cho, iha, ihb]
def nf : Nat → Node → Prop
 | 0, _ => True
 | d + 1, x => (x.kind = 1 → x.nodes.length ≠ 1 ∧ ∀ y ∈ x.nodes, y.kind ≠ 1) ∧ (x.kind = 2 → x.count ≠ 1) ∧ ∀ y ∈ x.nodes, nf d y
section
variable {d : Nat} {s : Step} {l : List Node} {c : Int} {y a b : Node} {n : List UInt8}
end
structure PartsOk (d : Nat) (z : Node) (L : List Node) : Prop where
 right : ∀ w ∈ L, Right d w
 cnt : (L.map (cntT d)).sum ≤ cntT d z
 steps : ∀ on, L.flatMap (stepsN on d) = stepsN on d z
 names : ∀ s, (∃ w ∈ L, s ∈ namesN d w) ↔ s ∈ namesN d z
 nfs : nf d z → ∀ w ∈ L, nf d w ∧ w.kind ≠ 1
 ne : L ≠ []
 mots : L.map (mot d) = if (mot d z).isList = true then (mot d z).prts else [mot d z]
structure PlainOk (d : Nat) (x z : Node) : Prop where
 right : Right d z
 cnt : cntT d z ≤ cntT d x
 nfs : nf d z
 steps : ∀ on, stepsN on d z = stepsN on d x
 names : ∀ s, s ∈ namesN d z ↔ s ∈ namesN d x
section
variable (x : Node) (g : GoodN x) (hN : lightB x = true → NamOk x)
include g hN
end
def FineK (k : Int) (s : Txt) : Prop := (k = 0 ∧ word s = 0) ∨ (k = 1 ∧ num s = 0) ∨ (k = 2 ∧ ∃ c, s = [c] ∧ signB c = true)
theorem FineK.len {k : Int} {s : Txt} (h : FineK k s) : s.length ≤ 24 := by
 rcases h with ⟨_, h⟩ | ⟨_, h⟩ | ⟨_, c, h, _⟩
 · exact word_len h
 · have := (num_zero.1 h).2.2.2; omega
 · rw [h]; simp
structure TokOk (T : List Token) : Prop where
 len : T.length ≤ 5000
 fine : ∃ ts e, T = ts ++ [e] ∧ e.kind = 3 ∧ e.text = [] ∧ ∀ t ∈ ts, FineK t.kind t.text
theorem TokOk.kind {T : List Token} (w : TokOk T) : ∀ t ∈ T, t.text.length ≤ 24 ∧ (t.kind = 1 → num t.text = 0) := by
 obtain ⟨ts, e, rfl, h1, h2, h3⟩ := w.fine
 intro t ht
 rcases List.mem_append.1 ht with ht | ht
 · have := h3 t ht
   refine ⟨this.len, fun hk => ?_⟩
   rcases this with ⟨h, _⟩ | ⟨_, h⟩ | ⟨h, _⟩
   · omega
   · exact h
   · omega
 · rw [List.mem_singleton.1 ht]
   exact ⟨by rw [h2]; simp, fun hk => by omega⟩
theorem TokOk.last {T : List Token} (w : TokOk T) {i : Nat} {t : Token} (h : T[i]? = some t) (hk : t.kind ≠ 3) : i + 1 < T.length := by
 obtain ⟨ts, e, rfl, h1, h2, h3⟩ := w.fine
 have hi : i < (ts ++ [e]).length := (List.getElem?_eq_some_iff.1 h).1
 by_cases hl : i = ts.length
 · subst hl
   rw [List.getElem?_append_right (Nat.le_refl _), Nat.sub_self] at h
   cases h
   exact absurd h1 hk
 · simp at hi ⊢
   omega
theorem at?_nat {α : Type} {l : List α} {i : Nat} : at? l (i : Int) = l[i]? := by
 unfold at?
 rw [if_pos (by omega), Int.toNat_natCast]
section
variable (T : List Token)
end
inductive SmallN : Node → Prop
 | mk (x : Node) (h1 : x.step.strokes.length ≤ 100000) (h2 : x.name.length ≤ 100000) (h3 : x.nodes.length ≤ 100000) (k : ∀ y ∈ x.nodes, SmallN y) : SmallN x
theorem SmallN.good {x : Node} (h : SmallN x) : GoodN x := by
 induction h with
 | mk x h1 h2 h3 k ih => exact .mk x (by rw [maxLen_eq]; omega) (by rw [maxLen_eq]; omega) (by rw [maxLen_eq]; omega) ih
theorem SmallN.nam {x : Node} (h : SmallN x) : NamOk x := by
 induction h with
 | mk x h1 h2 h3 k ih => exact .mk x h2 ih
abbrev KT : Type := Int × Txt
def kt (t : Token) : KT := (t.kind, t.text)
def Stop (s : Txt) : Prop := s = [] ∨ ∃ c Z, s = c :: Z ∧ inner c = false ∧ isD c = false
inductive Sp : Txt → List KT → Prop
 | nil : Sp [] []
 | blank (b : UInt8) (s : Txt) (ts : List KT) (hb : blank b = true) (h : Sp s ts) : Sp (b :: s) ts
 | tok (k : Int) (t s : Txt) (ts : List KT) (hf : FineK k t) (h : Sp s ts) (hs : k ≠ 2 → Stop s) : Sp (t ++ s) ((k, t) :: ts)
section
variable {d : Nat} {s : Step} {l : List Node} {c : Int} {y a b : Node} {n : List UInt8}
end
def AtK (T : List Token) (i : Nat) (L : List KT) : Prop := (T.map kt).drop i = L
theorem AtK.cons {T : List Token} {i : Nat} {k : Int} {s : Txt} {L : List KT} (h : AtK T i ((k, s) :: L)) : ∃ t, at? T (i : Int) = some t ∧ t.kind = k ∧ t.text = s ∧ AtK T (i + 1) L := by
 unfold AtK at h ⊢
 have h1 : (T.map kt)[i]? = some (k, s) := by
  have := congrArg List.head? h
  rwa [List.head?_drop, List.head?_cons] at this
 rw [List.getElem?_map] at h1
 cases hx : T[i]? with
 | none => rw [hx] at h1; cases h1
 | some t =>
  rw [hx] at h1
  have h2 : kt t = (k, s) := Option.some.inj h1
  refine ⟨t, by rw [at?_nat, hx], congrArg Prod.fst h2, congrArg Prod.snd h2, ?_⟩
  rw [show i + 1 = 1 + i by omega, ← List.drop_drop] at *
  rw [List.drop_drop, Nat.add_comm, ← List.drop_drop, h]
  rfl
theorem AtK.add {T : List Token} {i : Nat} {K L : List KT} (h : AtK T i (K ++ L)) : AtK T (i + K.length) L := by
 unfold AtK at h ⊢
 rw [← List.drop_drop, h, List.drop_left]
theorem AtK.lt {T : List Token} {i : Nat} {L : List KT} (h : AtK T i L) (hl : L ≠ []) : i + L.length = T.length := by
 unfold AtK at h
 have := congrArg List.length h
 have hp := List.length_pos_iff.2 hl
 rw [List.length_drop, List.length_map] at this
 omega
section
variable {T : List Token} (hT : T.length ≤ 5000) {i : Nat} {k' : Int} {s' : Txt} {L : List KT} (h : AtK T i ((k', s') :: L))
include hT h
end
theorem steps_pos (on : List Txt) {d : Nat} {x : Node} (h : Right d x) : 1 ≤ (stepsN on d x).length := by
 induction h with
 | step d s h => rw [stepsN_step]; simp
 | list d l h hl k ih =>
  obtain ⟨y, hy⟩ := List.exists_mem_of_ne_nil l h
  rw [stepsN_list, List.length_flatMap]
  exact Nat.le_trans (ih y hy) (mem_sum (f := fun y => (stepsN on d y).length) hy)
 | rep d c y h0 h1 h ih =>
  rw [stepsN_rep]
  obtain ⟨q, hq⟩ : ∃ q, c.toNat = q + 1 := ⟨c.toNat - 1, by omega⟩
  rw [hq, List.replicate_succ, List.flatten_cons, List.length_append]
  omega
 | cho d n a b h ha hb iha ihb =>
  rw [stepsN_cho]
  split
  · exact iha
  · exact ihb
theorem rpl_len {α : Type} (l : List α) : ∀ n : Nat, (List.replicate n l).flatten.length = n * l.length
 | 0 => by simp
 | n + 1 => by rw [List.replicate_succ, List.flatten_cons, List.length_append, rpl_len l n, Nat.add_mul, Nat.one_mul, Nat.add_comm]
theorem kept_loop (on : List Txt) (r5 : List Txt × Int) (hl : on.length ≤ 1000) (hr : r5.1.length ≤ 1000000) (K : List Txt → Option Bool) : ∀ (r pre acc : List Txt), on = pre ++ r → acc.length ≤ pre.length → law15_ProgramRepeats_loop1 on r5 K (r.length + 1) (pre.length : Int) acc = K (acc ++ r.filter fun s => decide (s ∈ r5.1))
 | [], pre, acc, e, ha => by rw [law15_ProgramRepeats_loop1, end_mid e, if_neg (by simp), List.filter_nil, List.append_nil]
 | y :: r, pre, acc, e, ha => by
  obtain ⟨h1, h2, h3, h4, h5⟩ := step_mid e (by omega)
  have ih := fun acc => kept_loop on r5 hl hr K r (pre ++ [y]) acc h4
  rw [List.length_cons, law15_ProgramRepeats_loop1, h1, if_pos rfl, joinK, h2, Option.bind_some, contains_eq _ _ hr, Option.bind_some, h3]
  by_cases h : y ∈ r5.1
  · rw [if_pos (by simpa using h), appO_ok (by simp; omega) (by decide), Option.bind_some, List.filter_cons, if_pos (by simpa using h)]
    dsimp only
    rw [ih _ (by simp; omega)]
    simp
  · rw [if_neg (by simpa using h), List.filter_cons, if_neg (by simpa using h)]
    dsimp only
    rw [ih _ (by simp; omega)]
theorem concat2 (l : List Step) (h : l.length ≤ 1000) : slices_Concat_api_Stepapi_Step [l, l] = some (l ++ l) := by
 have w0 : IntKind.wrap .i64 ((0 : Int) + (l.length : Int)) = (l.length : Int) := by rw [wrap64 (by omega) (by omega)]; omega
 have w1 : IntKind.wrap .i64 ((l.length : Int) + (l.length : Int)) = ((l.length + l.length : Nat) : Int) := by rw [wrap64 (by omega) (by omega)]; omega
 have v1 : IntKind.wrap .i64 ((0 : Int) + 1) = 1 := by decide
 have v2 : IntKind.wrap .i64 ((1 : Int) + 1) = 2 := by decide
 have a0 : at? [l, l] (0 : Int) = some l := rfl
 have a1 : at? [l, l] (1 : Int) = some l := rfl
 have c0 : decide ((0 : Int) < (([l, l] : List (List Step)).length : Int)) = true := rfl
 have c1 : decide ((1 : Int) < (([l, l] : List (List Step)).length : Int)) = true := rfl
 have c2 : decide ((2 : Int) < (([l, l] : List (List Step)).length : Int)) = false := rfl
 have n0 : decide ((l.length : Int) < 0) = false := decide_eq_false (by omega)
 have n1 : decide (((l.length + l.length : Nat) : Int) < 0) = false := decide_eq_false (by omega)
 have hg : guardO (decide (0 ≤ ((l.length + l.length : Nat) : Int)) && decide (((l.length + l.length : Nat) : Int) ≤ 1000000)) = some () := by
  rw [decide_eq_true (by omega), decide_eq_true (by omega)]; rfl
 have f : Int.toNat ((([l, l] : List (List Step)).length : Int) - 0) + 1 = 3 := rfl
 have ap0 : appO 32 ([] : List Step) l = some l := by rw [appO_ok (by simp; omega) (by decide)]; rfl
 have ap1 : appO 32 l l = some (l ++ l) := appO_ok (by omega) (by decide)
 rw [slices_Concat_api_Stepapi_Step, joinK, f]
 rw [slices_Concat_api_Stepapi_Step_loop1, c0, if_pos rfl, joinK, a0, Option.bind_some, w0, n0, if_neg (by simp), v1]
 dsimp only
 rw [slices_Concat_api_Stepapi_Step_loop1, c1, if_pos rfl, joinK, a1, Option.bind_some, w1, n1, if_neg (by simp), v2]
 dsimp only
 rw [slices_Concat_api_Stepapi_Step_loop1, c2, if_neg (by simp)]
 rw [hg, Option.bind_some, joinK]
 rw [slices_Concat_api_Stepapi_Step_loop2, c0, if_pos rfl, a0, Option.bind_some, ap0, Option.bind_some, v1, List.nil_append]
 rw [slices_Concat_api_Stepapi_Step_loop2, c1, if_pos rfl, a1, Option.bind_some, ap1, Option.bind_some, v2]
 rw [slices_Concat_api_Stepapi_Step_loop2, c2, if_neg (by simp)]
theorem right15_up {x : Node} {l : List Node} {c : Int} {k : Int} {s : Step} {n : List UInt8} (h : Right 16 ⟨k, s, c, n, l⟩) (hx : x ∈ l) : Right 15 x := by
 cases h with
 | step d s h => cases hx
 | list d l h hl k => exact k x hx
 | rep d c y h0 h1 h => rw [List.mem_singleton.1 hx]; exact h
 | cho d n a b h ha hb =>
  rcases List.mem_cons.1 hx with rfl | hx
  · exact ha
  · rw [List.mem_singleton.1 hx]; exact hb
theorem law_Repeats15 (x : Node) (on : List Txt) (count : Int) (g : GoodN x) (hl : on.length ≤ maxLen) (hc0 : 0 ≤ count) (hc1 : count ≤ 255) : law15_ProgramRepeats x on count = some true := by
 obtain ⟨b, h1, h2⟩ := right15_eq x on g hl
 obtain ⟨b', h3, h4⟩ := law_few x on g hl
 rw [law15_ProgramRepeats, h1, h3, awake_true]
 cases b with
 | false => rfl
 | true =>
  cases b' with
  | false => rfl
  | true =>
   obtain ⟨hr, hc, h0, hN, hS, ho⟩ := h2 rfl
   have hon : on.length ≤ 1000000 := by omega
   have i1 : ∀ {α : Type} (z : α) (r : α × Int), ifOk x z r = r := fun z r => if_neg (by simpa using h0)
   have il := inpN_len (x := x) (by omega)
   obtain ⟨n, hn0, hn1, hn⟩ : ∃ n : Nat, 1 ≤ n ∧ n ≤ 64 ∧ IntKind.wrap .i64 ((Int.tmod (IntKind.wrap .i64 count) 64) + 1) = (n : Int) := by
    refine ⟨(count % 64 + 1).toNat, by omega, by omega, ?_⟩
    rw [wrap64 (x := count) (by omega) (by omega), Int.tmod_eq_emod_of_nonneg hc0, wrap64 (by omega) (by omega)]
    omega
   obtain ⟨u1, u2⟩ := unfN_good on hr
   simp only [Option.bind_some, Bool.not_true, Bool.false_eq_true, if_false, lUnfold_eq x g (fun _ => hN) on hon, lInputs_eq x g (fun _ => hN), i1, bne_self_eq_false, hn]
   rw [joinK, fuel0]
   refine (kept_loop on (inpN x, 0) (by omega) (by show (inpN x).length ≤ 1000000; omega) _ on [] [] rfl (by simp)).trans ?_
   rw [List.nil_append]
   have hfl : (on.filter fun s => decide (s ∈ inpN x)).length ≤ 1000000 := Nat.le_trans (List.length_filter_le ..) hon
   have hu : unfN (on.filter fun s => decide (s ∈ inpN x)) x = unfN on x := (seqN_congr hr fun s hs => by
    rw [List.mem_filter, decide_eq_true_eq]
    have : s ∈ inpN x := by unfold inpN; rw [(setN_props _).1]; exact hs
    exact ⟨fun q => q.1, fun q => ⟨q, this⟩⟩).1
   show (program_Unfold x (on.filter fun s => decide (s ∈ inpN x))).bind _ = some true
   rw [lUnfold_eq x g (fun _ => hN) _ hfl, i1, hu, Option.bind_some]
   simp only [bne_self_eq_false, Bool.false_eq_true, if_false, sameQ _ u1 u2, Option.bind_some, Bool.not_true]
   by_cases hz : (unfN on x).2 = 0
   · have hst : (unfN on x).1 = stepsN on 16 x ∧ (stepsN on 16 x).length ≤ 64 := by
      unfold unfN at hz ⊢
      split at hz
      · rename_i q; rw [if_pos q]; exact ⟨rfl, q⟩
      · cases hz
     obtain ⟨hst, hlen⟩ := hst
     have hpos := steps_pos on hr
     rw [if_neg (by simpa using hz), hst]
     rw [hst] at u2
     have gm : GoodN ⟨2, ⟨[], 0⟩, (n : Int), [], [x]⟩ := .mk _ (by simp) (by simp) (by simp [maxLen_eq]) (fun z hz => by rw [List.mem_singleton.1 hz]; exact g)
     have nm : NamOk ⟨2, ⟨[], 0⟩, (n : Int), [], [x]⟩ := .mk _ (by simp) (fun z hz => by rw [List.mem_singleton.1 hz]; exact hN)
     have gt : GoodN ⟨1, ⟨[], 0⟩, 0, [], [x, x]⟩ := .mk _ (by simp) (by simp) (by simp [maxLen_eq]) (fun z hz => by
      rcases List.mem_cons.1 hz with rfl | hz
      · exact g
      · rw [List.mem_singleton.1 hz]; exact g)
     have nt : NamOk ⟨1, ⟨[], 0⟩, 0, [], [x, x]⟩ := .mk _ (by simp) (fun z hz => by
      rcases List.mem_cons.1 hz with rfl | hz
      · exact hN
      · rw [List.mem_singleton.1 hz]; exact hN)
     rw [rcheckN_eq _ gm (fun _ => nm), rcheckN_eq _ gt (fun _ => nt), Option.bind_some, Option.bind_some]
     by_cases ha : checkN ⟨2, ⟨[], 0⟩, (n : Int), [], [x]⟩ = 0
     · by_cases hb : checkN ⟨1, ⟨[], 0⟩, 0, [], [x, x]⟩ = 0
       · have ra := check_right.1 ha
         have rb := check_right.1 hb
         have h15 := right15_up ra.1 (x := x) (by simp)
         have hup : stepsN on 15 x = stepsN on 16 x := (steps_up on h15).symm
         have sa : stepsN on 16 ⟨2, ⟨[], 0⟩, (n : Int), [], [x]⟩ = (List.replicate n (stepsN on 16 x)).flatten := by
          rw [stepsN_rep, hup, Int.toNat_natCast]
         have sb : stepsN on 16 ⟨1, ⟨[], 0⟩, 0, [], [x, x]⟩ = stepsN on 16 x ++ stepsN on 16 x := by
          rw [stepsN_list, List.flatMap_cons, List.flatMap_cons, List.flatMap_nil, List.append_nil, hup]
         have la := rpl_len (stepsN on 16 x) n
         have ia : ∀ {α : Type} (z : α) (r : α × Int), ifOk ⟨2, ⟨[], 0⟩, (n : Int), [], [x]⟩ z r = r := fun z r => if_neg (by simpa using ha)
         have ib : ∀ {α : Type} (z : α) (r : α × Int), ifOk ⟨1, ⟨[], 0⟩, 0, [], [x, x]⟩ z r = r := fun z r => if_neg (by simpa using hb)
         obtain ⟨ga1, ga2⟩ := unfN_good on ra.1
         obtain ⟨gb1, gb2⟩ := unfN_good on rb.1
         rw [ha, hb, lUnfold_eq _ gm (fun _ => nm) on hon, lUnfold_eq _ gt (fun _ => nt) on hon, ia, ib]
         have hmul : n * (stepsN on 16 x).length ≤ 64 * 64 := Nat.mul_le_mul hn1 hlen
         have wm : IntKind.wrap .i64 ((n : Int) * ((stepsN on 16 x).length : Int)) = ((n * (stepsN on 16 x).length : Nat) : Int) := by
          have e : (n : Int) * ((stepsN on 16 x).length : Int) = ((n * (stepsN on 16 x).length : Nat) : Int) := by rw [Int.natCast_mul]
          rw [e]
          generalize n * (stepsN on 16 x).length = q at hmul
          exact wrap64 (by omega) (by omega)
         have w2 : IntKind.wrap .i64 (2 * ((stepsN on 16 x).length : Int)) = ((2 * (stepsN on 16 x).length : Nat) : Int) := by rw [wrap64 (by omega) (by omega)]; omega
         simp only [bne_self_eq_false, Bool.false_eq_true, if_false, Option.bind_some, wm, w2]
         -- again
         have hA : ((if (!((decide (((n * (stepsN on 16 x).length : Nat) : Int) > 64)) == ((unfN on ⟨2, ⟨[], 0⟩, (n : Int), [], [x]⟩).2 == 12))) = true then some true else (if ((unfN on ⟨2, ⟨[], 0⟩, (n : Int), [], [x]⟩).2 == 0) = true then (repSt (stepsN on 16 x) (n : Int)).bind fun r14 =>
          (ref13_SameSteps (unfN on ⟨2, ⟨[], 0⟩, (n : Int), [], [x]⟩).1 r14).bind fun r15 =>
          some (!r15) else some false).bind fun c5 =>
          some c5) : Option Bool) = some false := by
          have hrep : repSt (stepsN on 16 x) (n : Int) = some (List.replicate n (stepsN on 16 x)).flatten := by
           unfold repSt
           rw [if_pos ⟨by omega, by omega, hpos, by omega⟩, Int.toNat_natCast]
          unfold unfN at ga1 ga2 ⊢
          rw [sa, la] at ga1 ga2 ⊢
          by_cases hq : n * (stepsN on 16 x).length ≤ 64
          · rw [if_pos hq] at ga1 ga2 ⊢
            have e : decide (((n * (stepsN on 16 x).length : Nat) : Int) > 64) = false := decide_eq_false (by omega)
            rw [e, hrep, Option.bind_some, sameQ _ ga1 ga2]
            rfl
          · rw [if_neg hq]
            have e : decide (((n * (stepsN on 16 x).length : Nat) : Int) > 64) = true := decide_eq_true (by omega)
            rw [e]
            rfl
         rw [hA, Option.bind_some, if_neg (by simp)]
         -- twice
         unfold unfN at gb1 gb2 ⊢
         rw [sb] at gb1 gb2 ⊢
         rw [concat2 _ (by omega)]
         by_cases hq : (stepsN on 16 x ++ stepsN on 16 x).length ≤ 64
         · rw [if_pos hq] at gb1 gb2 ⊢
           have e : decide (((2 * (stepsN on 16 x).length : Nat) : Int) > 64) = false := decide_eq_false (by rw [List.length_append] at hq; omega)
           rw [e, Option.bind_some, sameQ _ gb1 gb2]
           rfl
         · rw [if_neg hq]
           have e : decide (((2 * (stepsN on 16 x).length : Nat) : Int) > 64) = true := decide_eq_true (by rw [List.length_append] at hq; omega)
           rw [e]
           rfl
       · rw [ha]
         have e : (checkN ⟨1, ⟨[], 0⟩, 0, [], [x, x]⟩ != 0) = true := by simpa using hb
         simp only [bne_self_eq_false, Bool.false_eq_true, if_false, Option.bind_some, e, if_true]
     · have e : (checkN ⟨2, ⟨[], 0⟩, (n : Int), [], [x]⟩ != 0) = true := by simpa using ha
       simp only [e, if_true, Option.bind_some]
   · rw [if_pos (by simpa using hz)]
end Go.Proofs.YtgpfgnpdbmbknaaGreatDoor.W
