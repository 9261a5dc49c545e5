import Derived.Test.YtgpfgnpdbmbknaaGreatDoorLawL
set_option linter.unusedVariables false
set_option linter.unusedSimpArgs false
set_option maxHeartbeats 2000000
set_option linter.unusedSectionVars false
namespace Go.Proofs.YtgpfgnpdbmbknaaGreatDoor.W
open Go Go.RowKit
def runL {σ X : Type} (step : σ → X → Option (Bool × σ)) : List X → σ → Option (Bool × σ)
 | [], z => some (true, z)
 | a :: l, z => (step z a).bind fun q => if q.1 = true then runL step l q.2 else some (false, q.2)
theorem runL_append {σ X : Type} (step : σ → X → Option (Bool × σ)) (b : List X) : ∀ (a : List X) (z : σ), runL step (a ++ b) z = (runL step a z).bind fun q => if q.1 = true then runL step b q.2 else some (false, q.2)
 | [], z => by simp [runL]
 | x :: a, z => by
  rw [List.cons_append, runL, runL, Option.bind_assoc]
  congr 1
  funext q
  split
  · exact runL_append step b a q.2
  · rename_i h
    rw [Option.bind_some, if_neg (by simp)]
theorem GoodN.sub {x y : Node} (h : GoodN x) (hy : y ∈ x.nodes) : GoodN y := by cases h with | mk _ _ _ _ h4 => exact h4 y hy
theorem GoodN.len {x : Node} (h : GoodN x) : x.nodes.length ≤ maxLen := by cases h with | mk _ _ _ h3 _ => exact h3
theorem GoodN.name {x : Node} (h : GoodN x) : x.name.length ≤ maxLen := by cases h with | mk _ _ h2 _ _ => exact h2
theorem GoodN.strokes {x : Node} (h : GoodN x) : x.step.strokes.length ≤ maxLen := by cases h with | mk _ h1 _ _ _ => exact h1
theorem wrap_max {α : Type} {x : α} {pre r l : List α} (e : l = pre ++ x :: r) (h : l.length ≤ maxLen) : IntKind.wrap .i64 ((pre.length : Int) + 1) = ((pre ++ [x]).length : Int) := by
 rw [maxLen_eq] at h
 have : pre.length + 1 ≤ l.length := by rw [e]; simp
 rw [wrap64 (by omega) (by omega)]
 simp
def deepN : Nat → Node → Bool
 | 0, _ => false
 | d + 1, x => x.nodes.all (deepN d)
def cntT : Nat → Node → Nat
 | 0, _ => 1
 | d + 1, x => 1 + (x.nodes.map (cntT d)).sum
theorem cntT_pos : ∀ (d : Nat) (x : Node), 1 ≤ cntT d x
 | 0, x => Nat.le_refl _
 | d + 1, x => by rw [cntT]; omega
theorem deepN_sub {d : Nat} {x y : Node} (h : deepN (d + 1) x = true) (hy : y ∈ x.nodes) : deepN d y = true := List.all_eq_true.1 (by simpa [deepN] using h) y hy
theorem mem_sum {α : Type} {f : α → Nat} {l : List α} {y : α} (hy : y ∈ l) : f y ≤ (l.map f).sum := by
 induction l with
 | nil => cases hy
 | cons a l ih =>
  rw [List.map_cons, List.sum_cons]
  rcases List.mem_cons.1 hy with rfl | hy
  · omega
  · have := ih hy; omega
theorem len_sum {α : Type} {f : α → Nat} {l : List α} (h : ∀ y ∈ l, 1 ≤ f y) : l.length ≤ (l.map f).sum := by
 induction l with
 | nil => simp
 | cons a l ih =>
  rw [List.map_cons, List.sum_cons, List.length_cons]
  have := h a (List.mem_cons_self ..)
  have := ih fun y hy => h y (List.mem_cons_of_mem _ hy)
  omega
theorem cntT_sub {d : Nat} {x y : Node} (hy : y ∈ x.nodes) : cntT d y + 1 ≤ cntT (d + 1) x := by
 rw [cntT]; have := mem_sum (f := cntT d) hy; omega
theorem cntT_len {d : Nat} {x : Node} : x.nodes.length + 1 ≤ cntT (d + 1) x := by
 rw [cntT]; have := len_sum (f := cntT d) (l := x.nodes) fun y _ => cntT_pos d y; omega
theorem sum_congr {α : Type} {f g : α → Nat} {l : List α} (h : ∀ y ∈ l, f y = g y) : (l.map f).sum = (l.map g).sum := by
 rw [List.map_congr_left h]
theorem cntT_deep : ∀ {d e : Nat} {x : Node}, d ≤ e → deepN (d + 1) x = true → cntT e x = cntT d x
 | 0, 0, x, _, _ => rfl
 | 0, e + 1, x, _, h => by
  have hn : x.nodes = [] := by
   cases hq : x.nodes with
   | nil => rfl
   | cons y r => have := deepN_sub h (y := y) (by rw [hq]; exact List.mem_cons_self ..); cases this
  rw [cntT, cntT, hn]
  rfl
 | d + 1, 0, x, he, _ => by omega
 | d + 1, e + 1, x, he, h => by
  rw [cntT, cntT, sum_congr fun y hy => cntT_deep (by omega) (deepN_sub h hy)]
theorem min_sum {α : Type} {f g : α → Nat} {m : Nat} {l : List α} (h : ∀ y ∈ l, min (f y) m = min (g y) m) : min (l.map f).sum m = min (l.map g).sum m := by
 induction l with
 | nil => rfl
 | cons a l ih =>
  have h1 := h a (List.mem_cons_self ..)
  have h2 := ih fun y hy => h y (List.mem_cons_of_mem _ hy)
  rw [List.map_cons, List.map_cons, List.sum_cons, List.sum_cons]
  omega
theorem cntT_min : ∀ (d e : Nat) (x : Node), d ≤ e → min (cntT d x) (d + 1) = min (cntT e x) (d + 1)
 | 0, e, x, _ => by have := cntT_pos e x; have := cntT_pos 0 x; omega
 | d + 1, 0, x, he => by omega
 | d + 1, e + 1, x, he => by
  have := min_sum (f := cntT d) (g := cntT e) (m := d + 1) (l := x.nodes) fun y _ => cntT_min d e y (by omega)
  rw [cntT, cntT]
  omega
theorem rcount_loop (x : Node) (g : x.nodes.length ≤ maxLen) (most : Nat) (hm : most ≤ 100000) (self : Node → Int → Option Int) (hs : ∀ y ∈ x.nodes, ∀ m : Nat, m + 1 ≤ most → self y (m : Int) = some ((min (cntT m y) (m + 1) : Nat) : Int)) (k : Int → Option Int) :
 ∀ (r pre : List Node) (n : Nat), x.nodes = pre ++ r → 1 ≤ n → n ≤ most + 1 → ref15_count_loop1 x (most : Int) self k (r.length + 1) (n : Int) (pre.length : Int) = k ((min (n + (r.map (cntT (most - 1))).sum) (most + 1) : Nat) : Int)
 | [], pre, n, e, h1, h2 => by
  rw [ref15_count_loop1, e, ge_end, Bool.false_and, if_neg (by simp)]
  congr 2
  simp
  omega
 | y :: r, pre, n, e, h1, h2 => by
  have ih := fun n => rcount_loop x g most hm self hs k r (pre ++ [y]) n (by rw [e, mid_cons])
  have hw := wrap_max e g
  rw [List.length_cons, ref15_count_loop1, e, lt_mid, Bool.true_and]
  by_cases hn : n ≤ most
  · have hy : y ∈ x.nodes := by rw [e]; simp
    rw [if_pos (by rw [decide_eq_true_eq]; omega), at?_mid, Option.bind_some, wrap64 (x := (most : Int) - (n : Int)) (by omega) (by omega), show (most : Int) - (n : Int) = ((most - n : Nat) : Int) by omega, hs y hy (most - n) (by omega), Option.bind_some, wrap64 (x := (n : Int) + _) (by omega) (by omega), hw]
    have e2 : (n : Int) + ((min (cntT (most - n) y) (most - n + 1) : Nat) : Int) = ((n + min (cntT (most - n) y) (most - n + 1) : Nat) : Int) := by omega
    rw [e2, ih _ (by omega) (by omega)]
    congr 2
    have := cntT_min (most - n) (most - 1) y (by omega)
    rw [List.map_cons, List.sum_cons]
    omega
  · rw [if_neg (by rw [decide_eq_true_eq]; omega)]
    congr 2
    omega
theorem rcount_eq : ∀ (n most : Nat) (x : Node), most + 1 ≤ n → n ≤ 100000 → GoodN x → ref15_count n x (most : Int) = some ((min (cntT most x) (most + 1) : Nat) : Int)
 | 0, most, x, h, _, g => by omega
 | n + 1, most, x, h, hn, g => by
  rw [ref15_count, ref15_count_body, joinK]
  have := rcount_loop x g.len most (by omega) (ref15_count n) (fun y hy m hm => rcount_eq n m y (by omega) (by omega) (g.sub hy)) (fun i3 => some i3) x.nodes [] 1 rfl (by omega) (by omega)
  rw [show ((1 : Nat) : Int) = 1 from rfl] at this
  refine this.trans ?_
  congr 2
  cases most with
  | zero => rw [cntT]; omega
  | succ m => rw [cntT]; rfl
theorem rdeep_loop (x : Node) (g : x.nodes.length ≤ maxLen) (most : Int) (self : Node → Int → Option Bool) (f : Node → Bool) (hs : ∀ y ∈ x.nodes, self y (IntKind.wrap .i64 (most - 1)) = some (f y)) :
 ∀ (r pre : List Node), x.nodes = pre ++ r → ref15_deep_loop1 x most self (some true) (r.length + 1) (pre.length : Int) = some (r.all f)
 | [], pre, e => by rw [ref15_deep_loop1, e, ge_end, if_neg (by simp)]; rfl
 | y :: r, pre, e => by
  have ih := rdeep_loop x g most self f hs r (pre ++ [y]) (by rw [e, mid_cons])
  have hw := wrap_max e g
  have hy : y ∈ x.nodes := by rw [e]; simp
  rw [List.length_cons, ref15_deep_loop1, e, lt_mid, if_pos rfl, at?_mid, Option.bind_some, hs y hy, Option.bind_some, hw, ih, List.all_cons]
  cases f y <;> simp
theorem rdeep_eq : ∀ (n d : Nat) (x : Node), d + 1 ≤ n → n ≤ 100000 → GoodN x → ref15_deep n x (d : Int) = some (deepN d x)
 | 0, d, x, h, _, g => by omega
 | n + 1, 0, x, h, hn, g => by rw [ref15_deep, ref15_deep_body, if_pos (by decide)]; rfl
 | n + 1, d + 1, x, h, hn, g => by
  rw [ref15_deep, ref15_deep_body, if_neg (by rw [decide_eq_true_eq]; omega)]
  by_cases hd : d = 0
  · subst hd
    rw [if_pos (by rfl), deepN]
    cases hq : x.nodes with
    | nil => rfl
    | cons y r => simp [deepN]; omega
  · rw [if_neg (by simp; omega), joinK, fuel0]
    refine rdeep_loop x g.len _ _ (deepN d) (fun y hy => ?_) x.nodes [] rfl
    rw [wrap64 (by omega) (by omega), show ((d + 1 : Nat) : Int) - 1 = (d : Int) by omega]
    exact rdeep_eq n d y (by omega) (by omega) (g.sub hy)
def lightB (x : Node) : Bool := decide (cntT 16 x ≤ 256) && deepN 16 x
theorem light_iff {x : Node} : lightB x = true ↔ cntT 16 x ≤ 256 ∧ deepN 16 x = true := by
 rw [lightB, Bool.and_eq_true, decide_eq_true_eq]
theorem rlight_eq (x : Node) (g : GoodN x) : ref15_Light x = some (lightB x) := by
 rw [ref15_Light, show (256 : Int) = ((256 : Nat) : Int) from rfl, rcount_eq 600 256 x (by omega) (by omega) g, Option.bind_some, show (16 : Int) = ((16 : Nat) : Int) from rfl, rdeep_eq 600 16 x (by omega) (by omega) g, Option.bind_some]
 rw [lightB]
 cases hd : deepN 16 x with
 | false =>
  rw [Bool.and_false]
  split <;> rfl
 | true =>
  have := cntT_deep (d := 15) (e := 256) (x := x) (by omega) hd
  have := cntT_deep (d := 15) (e := 16) (x := x) (by omega) hd
  rw [Bool.and_true]
  by_cases hc : cntT 16 x ≤ 256
  · rw [if_pos (by rw [decide_eq_true_eq]; omega), decide_eq_true hc]; rfl
  · rw [if_neg (by rw [decide_eq_true_eq]; omega), decide_eq_false hc]; rfl
def preL : Nat → Int → Node → List (Int × Node)
 | 0, k, x => [(k, x)]
 | m + 1, k, x => (k, x) :: x.nodes.flatMap (preL m (k + 1))
section
variable {σ : Type} (step : σ → (Int × Node) → Option (Bool × σ))
theorem pre_loop0 (x : Node) (g : x.nodes.length ≤ maxLen) (k : Int) (hk : ¬ k ≤ 16) (self : Node → Int → σ → Option (Bool × σ)) (K : σ → Option (Bool × σ)) :
 ∀ (r pre : List Node) (z : σ), x.nodes = pre ++ r → program_preorder_1_1_loop1 x k self K (r.length + 1) z (pre.length : Int) = K z
 | [], pre, z, e => by rw [program_preorder_1_1_loop1, e, ge_end, if_neg (by simp)]
 | y :: r, pre, z, e => by
  have ih := pre_loop0 x g k hk self K r (pre ++ [y]) z (by rw [e, mid_cons])
  have hw := wrap_max e g
  rw [List.length_cons, program_preorder_1_1_loop1, e, lt_mid, if_pos rfl, at?_mid, Option.bind_some, if_neg (by rw [decide_eq_true_eq]; exact hk), hw, ih]
theorem pre_loop (x : Node) (g : x.nodes.length ≤ maxLen) (k : Int) (h0 : 0 ≤ k) (hk : k ≤ 16) (self : Node → Int → σ → Option (Bool × σ)) (f : Node → List (Int × Node)) (hs : ∀ y ∈ x.nodes, ∀ z, self y (k + 1) z = runL step (f y) z) :
 ∀ (r pre : List Node) (z : σ), x.nodes = pre ++ r → program_preorder_1_1_loop1 x k self (fun z => some (true, z)) (r.length + 1) z (pre.length : Int) = runL step (r.flatMap f) z
 | [], pre, z, e => by rw [program_preorder_1_1_loop1, e, ge_end, if_neg (by simp)]; rfl
 | y :: r, pre, z, e => by
  have ih := fun z => pre_loop x g k h0 hk self f hs r (pre ++ [y]) z (by rw [e, mid_cons])
  have hw := wrap_max e g
  have hy : y ∈ x.nodes := by rw [e]; simp
  rw [List.length_cons, program_preorder_1_1_loop1, e, lt_mid, if_pos rfl, at?_mid, Option.bind_some, if_pos (by rw [decide_eq_true_eq]; exact hk), hw, wrap64 (x := k + 1) (by omega) (by omega), hs y hy, List.flatMap_cons, runL_append]
  congr 1
  funext q
  split
  · exact ih q.2
  · rfl
theorem pre_eq : ∀ (m n : Nat) (k : Int) (x : Node) (z : σ), k + m = 17 → 0 ≤ k → m < n → GoodN x → program_preorder_1_1 step n x k z = runL step (preL m k x) z
 | m, 0, k, x, z, _, _, h, _ => by omega
 | 0, n + 1, k, x, z, hk, h0, _, g => by
  rw [program_preorder_1_1, program_preorder_1_1_body, preL, runL]
  congr 1
  funext q
  split
  · rw [joinK]
    exact pre_loop0 x g.len k (by omega) _ _ x.nodes [] q.2 rfl
  · rfl
 | m + 1, n + 1, k, x, z, hk, h0, h, g => by
  rw [program_preorder_1_1, program_preorder_1_1_body, preL, runL]
  congr 1
  funext q
  split
  · rw [joinK]
    exact pre_loop step x g.len k h0 (by omega) _ (preL m (k + 1)) (fun y hy z => pre_eq m n (k + 1) y z (by omega) (by omega) (by omega) (g.sub hy)) x.nodes [] q.2 rfl
  · rfl
theorem preorder_eq (x : Node) (z : σ) (g : GoodN x) : program_preorder_1 step x z = runL step (preL 16 1 x) z := by
 rw [program_preorder_1, pre_eq step 16 600 1 x z (by omega) (by omega) (by omega) g]
 cases runL step (preL 16 1 x) z with
 | none => rfl
 | some q =>
  obtain ⟨b, s⟩ := q
  cases b <;> rfl
end
theorem light_run : ∀ (L : List (Int × Node)) (c : Nat), c ≤ 256 → ∃ q, runL program_light_rng1 L (c : Int) = some q ∧ (q.1 = true ↔ c + L.length ≤ 256 ∧ ∀ a ∈ L, a.1 ≤ 16)
 | [], c, h => ⟨_, rfl, by simp [h]⟩
 | a :: L, c, h => by
  rw [runL, program_light_rng1, wrap64 (x := (c : Int) + 1) (by omega) (by omega)]
  by_cases h1 : c + 1 ≤ 256 ∧ a.1 ≤ 16
  · obtain ⟨q, h2, h3⟩ := light_run L (c + 1) h1.1
    refine ⟨q, ?_, ?_⟩
    · rw [if_neg (by simp; omega), Option.bind_some, if_pos rfl]
      exact h2
    · rw [h3, List.length_cons]
      simp only [List.mem_cons, forall_eq_or_imp]
      exact ⟨fun q => ⟨by omega, h1.2, q.2⟩, fun q => ⟨by omega, q.2.2⟩⟩
  · refine ⟨_, by rw [if_pos (by simp; omega), Option.bind_some, if_neg (by simp)], ?_⟩
    rw [List.length_cons]
    simp only [List.mem_cons, forall_eq_or_imp, Bool.false_eq_true, false_iff]
    rintro ⟨q1, q2, _⟩
    exact h1 ⟨by omega, q2⟩
theorem preL_deep : ∀ (m : Nat) (k : Int) (x : Node), k + m = 17 → ((∀ a ∈ preL m k x, a.1 ≤ 16) ↔ deepN m x = true)
 | 0, k, x, h => by
  rw [preL, deepN]
  simp
  omega
 | m + 1, k, x, h => by
  rw [preL, deepN, List.all_eq_true]
  simp only [List.mem_cons, List.mem_flatMap, forall_eq_or_imp]
  constructor
  · rintro ⟨_, h2⟩ y hy
    exact (preL_deep m (k + 1) y (by omega)).1 fun a ha => h2 a ⟨y, hy, ha⟩
  · intro h2
    refine ⟨by show k ≤ 16; omega, ?_⟩
    rintro a ⟨y, hy, ha⟩
    exact (preL_deep m (k + 1) y (by omega)).2 (h2 y hy) a ha
theorem preL_len : ∀ (m : Nat) (k : Int) (x : Node), (preL m k x).length = cntT m x
 | 0, k, x => rfl
 | m + 1, k, x => by
  rw [preL, cntT, List.length_cons, List.length_flatMap, sum_congr fun y _ => preL_len m (k + 1) y]
  omega
theorem llight_eq (x : Node) (g : GoodN x) : program_light x = some (lightB x) := by
 obtain ⟨q, h1, h2⟩ := light_run (preL 16 1 x) 0 (by omega)
 rw [program_light, preorder_eq _ x _ g, show (0 : Int) = ((0 : Nat) : Int) from rfl, h1, Option.bind_some]
 rw [preL_len, preL_deep 16 1 x (by omega), Nat.zero_add] at h2
 have h3 : q.1 = lightB x := by rw [Bool.eq_iff_iff, h2, light_iff]
 rw [h3]
 cases lightB x <;> rfl
def noStep (x : Step) : Bool := decide (x.strokes = []) && x.wait == 0
def shapeB (x : Node) : Bool :=
 if x.kind = 0 then decide (x.nodes = []) && x.count == 0 && x.name == []
 else if x.kind = 1 then decide (x.nodes ≠ []) && noStep x.step && x.count == 0 && x.name == []
 else if x.kind = 2 then x.nodes.length == 1 && noStep x.step && x.name == []
 else x.nodes.length == 2 && noStep x.step && x.count == 0
def nodeE (x : Node) : Int :=
 if x.kind < 0 ∨ x.kind > 3 then 1 else if shapeB x = false then 3
 else if x.kind = 0 then chk x.step else if x.kind = 2 then (if x.count < 1 ∨ x.count > 64 then 2 else 0) else if x.kind = 3 then word x.name else 0
theorem len0 {α : Type} {l : List α} : ((l.length : Int) == 0) = decide (l = []) := by
 cases l with
 | nil => rfl
 | cons a l => simp; omega
theorem lenP {α : Type} {l : List α} : decide ((l.length : Int) > 0) = decide (l ≠ []) := by
 cases l with
 | nil => rfl
 | cons a l => simp
theorem lenN {α : Type} {l : List α} (k : Nat) : ((l.length : Int) == (k : Int)) = (l.length == k) := by
 rw [Bool.eq_iff_iff, beq_iff_eq, beq_iff_eq]; omega
theorem lenN' {α : Type} {l : List α} (k : Nat) : ((l.length : Int) != (k : Int)) = (l.length != k) := by
 rw [bne, bne, lenN]
theorem lalone_eq (x : Node) (h : x.name.length ≤ 100000) : program_alone x = some (nodeE x) := by
 obtain ⟨k, s, c, n, l⟩ := x
 dsimp only at h
 unfold program_alone nodeE joinK shapeB noStep
 dsimp only
 rw [lchk_eq, lword_eq _ (by omega), len0, lenP, lenP, show (1 : Int) = ((1 : Nat) : Int) from rfl, show (2 : Int) = ((2 : Nat) : Int) from rfl, lenN', lenN']
 simp only [Option.bind_some]
 by_cases h0 : k = 0
 · subst h0
   by_cases a : l = [] <;> by_cases b : c = 0 <;> by_cases d : n = [] <;> simp [a, b, d]
 · by_cases h1 : k = 1
   · subst h1
     by_cases a : l = [] <;> by_cases b : c = 0 <;> by_cases d : n = [] <;> by_cases e : s.strokes = [] <;> by_cases f : s.wait = 0 <;> simp [a, b, d, e, f]
   · by_cases h2 : k = 2
     · subst h2
       by_cases q : c < 1 ∨ 64 < c <;> by_cases a : l.length = 1 <;> by_cases d : n = [] <;> by_cases e : s.strokes = [] <;> by_cases f : s.wait = 0 <;> simp [a, d, e, f, q]
     · by_cases h3 : k = 3
       · subst h3
         by_cases a : l.length = 2 <;> by_cases b : c = 0 <;> by_cases e : s.strokes = [] <;> by_cases f : s.wait = 0 <;> simp [a, b, e, f]
       · have hk : k < 0 ∨ k > 3 := by omega
         rw [if_pos hk]
         simp [h0, h1, h2, h3]
theorem ralone_eq (x : Node) (h : x.name.length ≤ 100000) : ref15_node x = some (nodeE x) := by
 have hs : ref15_shape x = some (shapeB x) := by
  unfold ref15_shape shapeB noStep
  rw [len0, lenP, len0, show (1 : Int) = ((1 : Nat) : Int) from rfl, show (2 : Int) = ((2 : Nat) : Int) from rfl, lenN, lenN]
  simp only [beq_iff_eq]
  repeat' split
  all_goals rfl
 unfold ref15_node nodeE joinK
 dsimp only
 rw [hs, rchk_eq, rword_eq _ (by omega)]
 simp only [Option.bind_some, beq_iff_eq, Bool.or_eq_true, decide_eq_true_eq, Bool.not_eq_true']
 repeat' split
 all_goals first | rfl | (exfalso; omega)
def firstE {α : Type} (f : α → Int) : List α → Int
 | [] => 0
 | a :: l => if f a ≠ 0 then f a else firstE f l
theorem firstE_zero {α : Type} {f : α → Int} : ∀ {l : List α}, firstE f l = 0 ↔ ∀ a ∈ l, f a = 0
 | [] => by simp [firstE]
 | a :: l => by
  rw [firstE]
  split
  · rename_i h
    constructor
    · intro q; exact absurd q h
    · intro q; exact q a (List.mem_cons_self ..)
  · rename_i h
    rw [firstE_zero]
    simp only [List.mem_cons, forall_eq_or_imp]
    exact ⟨fun q => ⟨Decidable.not_not.1 h, q⟩, fun q => q.2⟩
theorem firstE_append {α : Type} (f : α → Int) (b : List α) : ∀ a : List α, firstE f (a ++ b) = if firstE f a ≠ 0 then firstE f a else firstE f b
 | [] => by simp [firstE]
 | x :: a => by
  rw [List.cons_append, firstE, firstE, firstE_append f b a]
  by_cases h : f x = 0
  · simp only [h, ne_eq, not_true_eq_false, if_false]
  · simp only [h, ne_eq, not_false_eq_true, if_true]
theorem firstE_flatMap {α β : Type} (f : β → Int) (g : α → List β) : ∀ l : List α, firstE f (l.flatMap g) = firstE (fun y => firstE f (g y)) l
 | [] => rfl
 | x :: l => by rw [List.flatMap_cons, firstE_append, firstE, firstE_flatMap f g l]
theorem firstE_congr {α : Type} {f g : α → Int} : ∀ {l : List α}, (∀ a ∈ l, f a = g a) → firstE f l = firstE g l
 | [], _ => rfl
 | a :: l, h => by rw [firstE, firstE, h a (List.mem_cons_self ..), firstE_congr fun y hy => h y (List.mem_cons_of_mem _ hy)]
def nodesE : Nat → Node → Int
 | 0, x => nodeE x
 | d + 1, x => if nodeE x ≠ 0 then nodeE x else firstE (nodesE d) x.nodes
def checkN (x : Node) : Int := if lightB x = false then 5 else nodesE 16 x
inductive NamOk : Node → Prop
 | mk (x : Node) (h : x.name.length ≤ 100000) (k : ∀ y ∈ x.nodes, NamOk y) : NamOk x
theorem NamOk.here {x : Node} (h : NamOk x) : x.name.length ≤ 100000 := by cases h with | mk _ h _ => exact h
theorem NamOk.sub {x y : Node} (h : NamOk x) (hy : y ∈ x.nodes) : NamOk y := by cases h with | mk _ _ k => exact k y hy
theorem preL_nam : ∀ (m : Nat) (k : Int) (x : Node), NamOk x → ∀ a ∈ preL m k x, a.2.name.length ≤ 100000
 | 0, k, x, h, a, ha => by
  rw [preL, List.mem_singleton] at ha
  rw [ha]
  exact h.here
 | m + 1, k, x, h, a, ha => by
  rw [preL] at ha
  rcases List.mem_cons.1 ha with rfl | ha
  · exact h.here
  · obtain ⟨y, hy, ha⟩ := List.mem_flatMap.1 ha
    exact preL_nam m (k + 1) y (h.sub hy) a ha
theorem check_run : ∀ (L : List (Int × Node)) (q : Int), (∀ a ∈ L, a.2.name.length ≤ 100000) → runL program_Check_rng1 L q = some (if firstE (fun a => nodeE a.2) L = 0 then (true, q) else (false, firstE (fun a => nodeE a.2) L))
 | [], q, h => by simp [runL, firstE]
 | a :: L, q, h => by
  rw [runL, program_Check_rng1, lalone_eq _ (h a (List.mem_cons_self ..)), Option.bind_some, firstE]
  by_cases h0 : nodeE a.2 = 0
  · have e : (if nodeE a.2 ≠ 0 then nodeE a.2 else firstE (fun a : Int × Node => nodeE a.2) L) = firstE (fun a : Int × Node => nodeE a.2) L := if_neg (by simpa using h0)
    rw [e, if_neg (by simpa using h0), Option.bind_some, if_pos rfl]
    exact check_run L q fun y hy => h y (List.mem_cons_of_mem _ hy)
  · have e : (if nodeE a.2 ≠ 0 then nodeE a.2 else firstE (fun a : Int × Node => nodeE a.2) L) = nodeE a.2 := if_pos h0
    rw [e, if_pos (by simpa using h0), Option.bind_some, if_neg (by simp), if_neg h0]
theorem nodesE_pre : ∀ (m : Nat) (k : Int) (x : Node), firstE (fun a : Int × Node => nodeE a.2) (preL m k x) = nodesE m x
 | 0, k, x => by
  rw [preL, nodesE, firstE, firstE]
  split
  · rfl
  · rename_i h; exact (Decidable.not_not.1 h).symm
 | m + 1, k, x => by rw [preL, nodesE, firstE, firstE_flatMap, firstE_congr fun y _ => nodesE_pre m (k + 1) y]
theorem lcheckN_eq (x : Node) (g : GoodN x) (h : lightB x = true → NamOk x) : program_Check x = some (checkN x) := by
 rw [program_Check, llight_eq x g, Option.bind_some, checkN]
 cases hl : lightB x with
 | false => rfl
 | true =>
  rw [if_neg (by simp), preorder_eq _ x _ g, check_run _ _ (preL_nam 16 1 x (h hl)), nodesE_pre, Option.bind_some]
  by_cases h0 : nodesE 16 x = 0 <;> simp [h0]
theorem rnodes_loop (x : Node) (g : x.nodes.length ≤ maxLen) (self : Node → Option Int) (f : Node → Int) (hs : ∀ y ∈ x.nodes, self y = some (f y)) :
 ∀ (r pre : List Node), x.nodes = pre ++ r → ref15_nodes_loop1 x self (some 0) (r.length + 1) (pre.length : Int) = some (firstE f r)
 | [], pre, e => by rw [ref15_nodes_loop1, e, ge_end, if_neg (by simp)]; rfl
 | y :: r, pre, e => by
  have ih := rnodes_loop x g self f hs r (pre ++ [y]) (by rw [e, mid_cons])
  have hw := wrap_max e g
  have hy : y ∈ x.nodes := by rw [e]; simp
  rw [List.length_cons, ref15_nodes_loop1, e, lt_mid, if_pos rfl, at?_mid, Option.bind_some, hs y hy, Option.bind_some, hw, ih, firstE]
  by_cases h0 : f y = 0
  · rw [if_neg (by simpa using h0), if_neg (by simpa using h0)]
  · rw [if_pos (by simpa using h0), if_pos h0]
theorem rnodes_eq : ∀ (n d : Nat) (x : Node), d ≤ n → deepN d x = true → GoodN x → NamOk x → ref15_nodes n x = some (nodesE d x)
 | n, 0, x, _, h, _, _ => by cases h
 | 0, d + 1, x, hd, _, _, _ => by omega
 | n + 1, d + 1, x, hd, h, g, k => by
  rw [ref15_nodes, ref15_nodes_body, ralone_eq _ k.here, Option.bind_some, nodesE]
  by_cases h0 : nodeE x = 0
  · rw [if_neg (by simpa using h0), joinK, fuel0, if_neg (by simpa using h0)]
    exact rnodes_loop x g.len _ (nodesE d) (fun y hy => rnodes_eq n d y (by omega) (deepN_sub h hy) (g.sub hy) (k.sub hy)) x.nodes [] rfl
  · rw [if_pos (by simpa using h0), if_pos h0]
theorem rcheckN_eq (x : Node) (g : GoodN x) (h : lightB x = true → NamOk x) : ref15_Check x = some (checkN x) := by
 rw [ref15_Check, rlight_eq x g, Option.bind_some, checkN]
 cases hl : lightB x with
 | false => rfl
 | true =>
  rw [if_neg (by simp), rnodes_eq 600 16 x (by omega) (light_iff.1 hl).2 g (h hl), Option.bind_some]
  simp
inductive Right : Nat → Node → Prop
 | step (d : Nat) (s : Step) (h : chk s = 0) : Right (d + 1) ⟨0, s, 0, [], []⟩
 | list (d : Nat) (l : List Node) (h : l ≠ []) (hl : l.length ≤ 256) (k : ∀ y ∈ l, Right d y) : Right (d + 1) ⟨1, ⟨[], 0⟩, 0, [], l⟩
 | rep (d : Nat) (c : Int) (y : Node) (h0 : 1 ≤ c) (h1 : c ≤ 64) (h : Right d y) : Right (d + 1) ⟨2, ⟨[], 0⟩, c, [], [y]⟩
 | cho (d : Nat) (n : List UInt8) (a b : Node) (h : word n = 0) (ha : Right d a) (hb : Right d b) : Right (d + 1) ⟨3, ⟨[], 0⟩, 0, n, [a, b]⟩
theorem noStep_eq {s : Step} (h : noStep s = true) : s = ⟨[], 0⟩ := by
 obtain ⟨a, b⟩ := s
 simp [noStep] at h
 rw [h.1, h.2]
theorem right_of : ∀ (d : Nat) (x : Node), deepN d x = true → cntT d x ≤ 256 → nodesE d x = 0 → Right d x
 | 0, x, h, _, _ => by cases h
 | d + 1, x, h, hc, he => by
  rw [nodesE] at he
  have h0 : nodeE x = 0 := by
   apply Classical.byContradiction
   intro q
   rw [if_pos q] at he
   exact q he
  rw [if_neg (by simpa using h0), firstE_zero] at he
  have hsub : ∀ y ∈ x.nodes, Right d y := fun y hy => right_of d y (deepN_sub h hy) (by have := cntT_sub (d := d) hy; omega) (he y hy)
  have hlen := cntT_len (d := d) (x := x)
  obtain ⟨k, s, c, n, l⟩ := x
  unfold nodeE at h0
  dsimp only at h0 hsub hlen
  split at h0
  · cases h0
  · rename_i hk
    split at h0
    · cases h0
    · rename_i hs
      rw [Bool.not_eq_false] at hs
      unfold shapeB at hs
      dsimp only at hs
      split at h0
      · rename_i e
        rw [if_pos e] at hs
        simp at hs
        obtain ⟨⟨rfl, rfl⟩, rfl⟩ := hs
        rw [e]
        exact .step d s h0
      · rename_i e0
        rw [if_neg e0] at hs
        split at h0
        · rename_i e
          rw [if_neg (by omega), if_pos e] at hs
          simp at hs
          obtain ⟨⟨h1, h2⟩, rfl⟩ := hs
          obtain rfl := noStep_eq h2
          split at h0
          · cases h0
          · rename_i hcc
            match l, h1 with
            | [y], _ =>
             rw [e]
             exact .rep d c y (by omega) (by omega) (hsub y (List.mem_cons_self ..))
        · rename_i e2
          split at h0
          · rename_i e
            rw [if_neg (by omega), if_neg e2] at hs
            simp at hs
            obtain ⟨⟨h1, h2⟩, rfl⟩ := hs
            obtain rfl := noStep_eq h2
            match l, h1 with
            | [a, b], _ =>
             rw [e]
             exact .cho d n a b h0 (hsub a (by simp)) (hsub b (by simp))
          · rename_i e3
            have e : k = 1 := by omega
            rw [if_pos e] at hs
            simp at hs
            obtain ⟨⟨⟨h1, h2⟩, rfl⟩, rfl⟩ := hs
            obtain rfl := noStep_eq h2
            rw [e]
            exact .list d l h1 (by omega) hsub
theorem right_deep {d : Nat} {x : Node} (h : Right d x) : deepN d x = true := by
 induction h with
 | step d s h => rfl
 | list d l h hl k ih => rw [deepN, List.all_eq_true]; exact ih
 | rep d c y h0 h1 h ih => rw [deepN, List.all_eq_true]; intro z hz; rw [List.mem_singleton.1 hz]; exact ih
 | cho d n a b h ha hb iha ihb =>
  rw [deepN, List.all_eq_true]
  intro z hz
  rcases List.mem_cons.1 hz with rfl | hz
  · exact iha
  · rw [List.mem_singleton.1 hz]; exact ihb
theorem right_E {d : Nat} {x : Node} (h : Right d x) : nodesE d x = 0 := by
 have key : ∀ {d : Nat} {x : Node}, nodeE x = 0 → (∀ y ∈ x.nodes, nodesE d y = 0) → nodesE (d + 1) x = 0 := fun h0 k => by
  rw [nodesE, if_neg (by simpa using h0)]
  exact firstE_zero.2 k
 induction h with
 | step d s h => exact key (by simpa [nodeE, shapeB] using h) (fun y hy => by cases hy)
 | list d l h hl k ih => exact key (by simp [nodeE, shapeB, h, noStep]) ih
 | rep d c y h0 h1 h ih => exact key (by simp [nodeE, shapeB, noStep]; omega) (fun z hz => by rw [List.mem_singleton.1 hz]; exact ih)
 | cho d n a b h ha hb iha ihb => exact key (by simp [nodeE, shapeB, noStep, h]) (fun z hz => by
  rcases List.mem_cons.1 hz with rfl | hz
  · exact iha
  · rw [List.mem_singleton.1 hz]; exact ihb)
theorem word_len {s : List UInt8} (h : word s = 0) : s.length ≤ 24 := by
 unfold word at h
 repeat' split at h
 all_goals first | (cases h; done) | omega
theorem right_good {d : Nat} {x : Node} (h : Right d x) : GoodN x := by
 induction h with
 | step d s h => exact .mk _ (by have := (chk_zero.1 h).few; show s.strokes.length ≤ maxLen; rw [maxLen_eq]; omega) (by simp) (by simp) (fun y hy => by cases hy)
 | list d l h hl k ih => exact .mk _ (by simp) (by simp) (by show l.length ≤ maxLen; rw [maxLen_eq]; omega) ih
 | rep d c y h0 h1 h ih => exact .mk _ (by simp) (by simp) (by simp [maxLen_eq]) (fun z hz => by rw [List.mem_singleton.1 hz]; exact ih)
 | cho d n a b h ha hb iha ihb => exact .mk _ (by simp) (by have := word_len h; show n.length ≤ maxLen; rw [maxLen_eq]; omega) (by simp [maxLen_eq]) (fun z hz => by
  rcases List.mem_cons.1 hz with rfl | hz
  · exact iha
  · rw [List.mem_singleton.1 hz]; exact ihb)
theorem check_right {x : Node} : checkN x = 0 ↔ Right 16 x ∧ cntT 16 x ≤ 256 := by
 unfold checkN
 constructor
 · intro h
   split at h
   · cases h
   · rename_i hl
     obtain ⟨a, b⟩ := light_iff.1 (by simpa using hl)
     exact ⟨right_of 16 x b a h, a⟩
 · rintro ⟨a, b⟩
   rw [if_neg (by rw [light_iff.2 ⟨b, right_deep a⟩]; simp)]
   exact right_E a
inductive ShortN : Node → Prop
 | mk (x : Node) (h1 : x.step.strokes.length ≤ 40) (h2 : x.name.length ≤ 60) (k : ∀ y ∈ x.nodes, ShortN y) : ShortN x
theorem ShortN.here {x : Node} (h : ShortN x) : x.step.strokes.length ≤ 40 ∧ x.name.length ≤ 60 := by cases h with | mk _ a b _ => exact ⟨a, b⟩
theorem ShortN.sub {x y : Node} (h : ShortN x) (hy : y ∈ x.nodes) : ShortN y := by cases h with | mk _ _ _ k => exact k y hy
theorem ShortN.nam {x : Node} (h : ShortN x) : NamOk x := by
 induction h with
 | mk x h1 h2 k ih => exact .mk x (by omega) ih
theorem short_loop (x : Node) (g : x.nodes.length ≤ maxLen) (self : Node → Option Bool) (f : Node → Bool) (hs : ∀ y ∈ x.nodes, self y = some (f y)) :
 ∀ (r pre : List Node), x.nodes = pre ++ r → ref15_short_loop1 x self (some true) (r.length + 1) (pre.length : Int) = some (r.all f)
 | [], pre, e => by rw [ref15_short_loop1, e, ge_end, if_neg (by simp)]; rfl
 | y :: r, pre, e => by
  have ih := short_loop x g self f hs r (pre ++ [y]) (by rw [e, mid_cons])
  have hw := wrap_max e g
  have hy : y ∈ x.nodes := by rw [e]; simp
  rw [List.length_cons, ref15_short_loop1, e, lt_mid, if_pos rfl, at?_mid, Option.bind_some, hs y hy, Option.bind_some, hw, ih, List.all_cons]
  cases f y <;> simp
def shortB : Nat → Node → Bool
 | 0, _ => false
 | d + 1, x => decide (x.step.strokes.length ≤ 40) && decide (x.name.length ≤ 60) && x.nodes.all (shortB d)
theorem short_eq15 : ∀ (n d : Nat) (x : Node), d ≤ n → deepN d x = true → GoodN x → ref15_short n x = some (shortB d x)
 | n, 0, x, _, h, _ => by cases h
 | 0, d + 1, x, hd, _, _ => by omega
 | n + 1, d + 1, x, hd, h, g => by
  rw [ref15_short, ref15_short_body, shortB, joinK, fuel0]
  have := short_loop x g.len (ref15_short n) (shortB d) (fun y hy => short_eq15 n d y (by omega) (deepN_sub h hy) (g.sub hy)) x.nodes [] rfl
  by_cases h1 : x.step.strokes.length ≤ 40
  · by_cases h2 : x.name.length ≤ 60
    · rw [if_neg (by simp; omega), decide_eq_true h1, decide_eq_true h2]
      exact this
    · rw [if_pos (by simp; omega), decide_eq_false h2]
      simp
  · rw [if_pos (by simp; omega), decide_eq_false h1]
    simp
theorem shortB_ok : ∀ (d : Nat) (x : Node), shortB d x = true → ShortN x
 | 0, x, h => by cases h
 | d + 1, x, h => by
  rw [shortB, Bool.and_eq_true, Bool.and_eq_true, decide_eq_true_eq, decide_eq_true_eq, List.all_eq_true] at h
  exact .mk x h.1.1 h.1.2 fun y hy => shortB_ok d y (h.2 y hy)
theorem few15_eq (x : Node) (g : GoodN x) : ∃ b, ref15_Few x = some b ∧ (b = true → lightB x = true → ShortN x ∧ cntT 16 x ≤ 30) := by
 rw [ref15_Few, show (512 : Int) = ((512 : Nat) : Int) from rfl, rcount_eq 600 512 x (by omega) (by omega) g, Option.bind_some, show (40 : Int) = ((40 : Nat) : Int) from rfl, rdeep_eq 600 40 x (by omega) (by omega) g]
 by_cases h1 : (decide (((min (cntT 512 x) (512 + 1) : Nat) : Int) > 30) && decide (((min (cntT 512 x) (512 + 1) : Nat) : Int) ≤ 256) || decide (((min (cntT 512 x) (512 + 1) : Nat) : Int) > ((512 : Nat) : Int))) = true
 · rw [if_pos h1]
   exact ⟨false, rfl, by simp⟩
 · rw [if_neg h1, Option.bind_some, Option.bind_some]
   cases hd : deepN 40 x with
   | false => exact ⟨false, rfl, by simp⟩
   | true =>
    rw [if_neg (by simp), short_eq15 600 40 x (by omega) hd g]
    have key : lightB x = true → cntT 512 x = cntT 16 x ∧ cntT 16 x ≤ 256 := fun hl => by
     obtain ⟨a, b⟩ := light_iff.1 hl
     have e1 := cntT_deep (d := 15) (e := 512) (x := x) (by omega) b
     have e2 := cntT_deep (d := 15) (e := 16) (x := x) (by omega) b
     exact ⟨by omega, a⟩
    by_cases h2 : decide (((min (cntT 512 x) (512 + 1) : Nat) : Int) > 256) = true
    · rw [if_pos h2]
      refine ⟨true, rfl, fun _ hl => ?_⟩
      have := key hl
      rw [decide_eq_true_eq] at h2
      omega
    · rw [if_neg h2]
      refine ⟨_, rfl, fun hb hl => ⟨shortB_ok 40 x hb, ?_⟩⟩
      have := key hl
      simp only [Bool.or_eq_true, Bool.and_eq_true, decide_eq_true_eq, not_or, not_and] at h1
      rw [decide_eq_true_eq] at h2
      omega
theorem fewNames_loop (l : List (List UInt8)) (K : Option Bool) (hl : l.length ≤ maxLen) : ∀ (r pre : List (List UInt8)), l = pre ++ r → ref15_FewNames_loop1 l K (r.length + 1) (pre.length : Int) = if (r.take (20 - pre.length)).all (fun s => decide (s.length ≤ 60)) = true then K else some false
 | [], pre, e => by
  rw [ref15_FewNames_loop1, e, ge_end, Bool.false_and, if_neg (by simp), if_pos (by simp)]
 | y :: r, pre, e => by
  have ih := fewNames_loop l K hl r (pre ++ [y]) (by rw [e, mid_cons])
  have hw := wrap_max e hl
  rw [List.length_cons, ref15_FewNames_loop1, e, lt_mid, Bool.true_and]
  by_cases h20 : pre.length < 20
  · rw [if_pos (by rw [decide_eq_true_eq]; omega), at?_mid, Option.bind_some, hw, ← e, ih]
    have e2 : (y :: r).take (20 - pre.length) = y :: r.take (20 - (pre ++ [y]).length) := by
     rw [show 20 - pre.length = (20 - (pre ++ [y]).length) + 1 by simp; omega, List.take_succ_cons]
    rw [e2, List.all_cons]
    by_cases h : y.length ≤ 60
    · rw [if_neg (by rw [decide_eq_true_eq]; omega), decide_eq_true h, Bool.true_and]
    · rw [if_pos (by rw [decide_eq_true_eq]; omega), decide_eq_false h, Bool.false_and, if_neg (by simp)]
  · rw [if_neg (by rw [decide_eq_true_eq]; omega), show 20 - pre.length = 0 by omega, if_pos (by simp)]
theorem fewNames_eq (l : List (List UInt8)) (hl : l.length ≤ maxLen) : ∃ b, ref15_FewNames l = some b ∧ (b = true → l.length ≤ 20 ∧ ∀ s ∈ l, s.length ≤ 60) := by
 rw [ref15_FewNames, joinK]
 have := fewNames_loop l (some (decide ((l.length : Int) ≤ 20))) hl l [] rfl
 refine ⟨_, this.trans (by rw [← apply_ite some]), fun h => ?_⟩
 split at h
 · rename_i hh
   rw [decide_eq_true_eq] at h
   have h20 : l.length ≤ 20 := by omega
   rw [List.take_of_length_le (by simpa using h20)] at hh
   exact ⟨h20, fun s hs => by simpa using List.all_eq_true.1 hh s hs⟩
 · cases h
theorem law_few (x : Node) (on : List (List UInt8)) (g : GoodN x) (hl : on.length ≤ maxLen) : ∃ b, law15_few x on = some b ∧ (b = true → (lightB x = true → ShortN x ∧ cntT 16 x ≤ 30) ∧ on.length ≤ 20 ∧ ∀ s ∈ on, s.length ≤ 60) := by
 obtain ⟨b, h1, h2⟩ := few15_eq x g
 obtain ⟨c, h3, h4⟩ := fewNames_eq on hl
 rw [law15_few, h1, h3, Option.bind_some]
 cases b with
 | false => exact ⟨false, rfl, by simp⟩
 | true => exact ⟨c, rfl, fun h => ⟨h2 rfl, h4 h⟩⟩
def mot : Nat → Node → Motion
 | 0, _ => .list []
 | d + 1, x => if x.kind = 0 then .single x.step else if x.kind = 1 then .list (x.nodes.map (mot d)) else if x.kind = 2 then .repeat_ x.count (mot d (x.nodes.headD x)) else .choice x.name (mot d (x.nodes.headD x)) (mot d ((x.nodes.drop 1).headD x))
section
variable {d : Nat} {s : Step} {l : List Node} {c : Int} {y a b : Node} {n : List UInt8}
theorem mot_step : mot (d + 1) ⟨0, s, 0, [], []⟩ = .single s := by simp [mot]
theorem mot_list : mot (d + 1) ⟨1, ⟨[], 0⟩, 0, [], l⟩ = .list (l.map (mot d)) := by simp [mot]
theorem mot_rep : mot (d + 1) ⟨2, ⟨[], 0⟩, c, [], [y]⟩ = .repeat_ c (mot d y) := by simp [mot]
theorem mot_cho : mot (d + 1) ⟨3, ⟨[], 0⟩, 0, n, [a, b]⟩ = .choice n (mot d a) (mot d b) := by simp [mot]
end
theorem of_loop (x : Node) (hl : x.nodes.length ≤ 1000) (self : Node → Option Motion) (f : Node → Motion) (hs : ∀ y ∈ x.nodes, self y = some (f y)) (K : List Motion → Option Motion) :
 ∀ (r pre : List Node), x.nodes = pre ++ r → program_of_loop1 x self K (r.length + 1) (pre.length : Int) (pre.map f) = K (x.nodes.map f)
 | [], pre, e => by rw [program_of_loop1, e, ge_end, if_neg (by simp), List.append_nil]
 | y :: r, pre, e => by
  have ih := of_loop x hl self f hs K r (pre ++ [y]) (by rw [e, mid_cons])
  have hy : y ∈ x.nodes := by rw [e]; simp
  have hpl0 : x.nodes.length = pre.length + (r.length + 1) := by rw [e]; simp
  have hpl : pre.length ≤ 1000 := by omega
  have hw := wrap_mid (x := y) (r := r) (pre := pre) (by rw [← e]; omega)
  rw [List.length_cons, program_of_loop1]
  rw [show decide ((pre.length : Int) < (x.nodes.length : Int)) = true by rw [e]; exact lt_mid, if_pos rfl, show at? x.nodes (pre.length : Int) = some y by rw [e]; exact at?_mid, Option.bind_some, hs y hy, Option.bind_some, appO_ok (by simp; omega) (by decide), Option.bind_some, hw]
  rw [List.map_append] at ih
  exact ih
theorem of_eq : ∀ (d n : Nat) (x : Node), d ≤ n → Right d x → program_of n x = some (mot d x) := by
 intro d n x hn h
 induction h generalizing n with
 | step d s h =>
  obtain ⟨n, rfl⟩ : ∃ k, n = k + 1 := ⟨n - 1, by omega⟩
  rw [mot_step]
  rfl
 | list d l h hl k ih =>
  obtain ⟨n, rfl⟩ : ∃ k, n = k + 1 := ⟨n - 1, by omega⟩
  rw [program_of, program_of_body, joinK, fuel0, mot_list]
  have := of_loop ⟨1, ⟨[], 0⟩, 0, [], l⟩ (by show l.length ≤ 1000; omega) (program_of n) (mot d) (fun y hy => ih y hy n (by omega))
  exact this _ l [] rfl
 | rep d c y h0 h1 h ih =>
  obtain ⟨n, rfl⟩ : ∃ k, n = k + 1 := ⟨n - 1, by omega⟩
  rw [program_of, program_of_body, joinK, fuel0, mot_rep]
  have := of_loop ⟨2, ⟨[], 0⟩, c, [], [y]⟩ (by simp) (program_of n) (mot d) (fun z hz => by rw [List.mem_singleton.1 hz]; exact ih n (by omega))
  exact this _ [y] [] rfl
 | cho d nm a b h ha hb iha ihb =>
  obtain ⟨n, rfl⟩ : ∃ k, n = k + 1 := ⟨n - 1, by omega⟩
  rw [program_of, program_of_body, joinK, fuel0, mot_cho]
  have := of_loop ⟨3, ⟨[], 0⟩, 0, nm, [a, b]⟩ (by simp) (program_of n) (mot d) (fun z hz => by
   rcases List.mem_cons.1 hz with rfl | hz
   · exact iha n (by omega)
   · rw [List.mem_singleton.1 hz]; exact ihb n (by omega))
  exact this _ [a, b] [] rfl
theorem index_loop (l : List (List UInt8)) (s : List UInt8) (hl : l.length ≤ 1000000) : ∀ (r pre : List (List UInt8)), l = pre ++ r → ∃ i : Int, slices_Index_stringstring_loop1 l s (some (-1)) (r.length + 1) (pre.length : Int) = some i ∧ (0 ≤ i ↔ s ∈ r)
 | [], pre, e => by
  rw [slices_Index_stringstring_loop1, e, ge_end, if_neg (by simp)]
  exact ⟨-1, rfl, by simp⟩
 | y :: r, pre, e => by
  obtain ⟨i, h1, h2⟩ := index_loop l s hl r (pre ++ [y]) (by rw [e, mid_cons])
  have hw := wrap_mid (x := y) (r := r) (pre := pre) (by rw [← e]; omega)
  rw [List.length_cons, slices_Index_stringstring_loop1]
  rw [show decide ((pre.length : Int) < (l.length : Int)) = true by rw [e]; exact lt_mid, if_pos rfl, show at? l (pre.length : Int) = some y by rw [e]; exact at?_mid, Option.bind_some, hw, h1]
  by_cases h : s = y
  · rw [if_pos (by simpa using h)]
    exact ⟨_, rfl, by simp [h]⟩
  · rw [if_neg (by simpa using h)]
    exact ⟨i, rfl, by rw [h2]; simp [h]⟩
theorem contains_eq (l : List (List UInt8)) (s : List UInt8) (hl : l.length ≤ 1000000) : slices_Contains_stringstring l s = some (decide (s ∈ l)) := by
 obtain ⟨i, h1, h2⟩ := index_loop l s hl l [] rfl
 rw [slices_Contains_stringstring, slices_Index_stringstring, joinK, fuel0]
 rw [show (0 : Int) = ((([] : List (List UInt8)).length : Nat) : Int) from rfl, h1, Option.bind_some]
 congr 1
 rw [Bool.eq_iff_iff, decide_eq_true_eq, decide_eq_true_eq]
 exact h2
theorem has_loop (l : List (List UInt8)) (s : List UInt8) (hl : l.length ≤ 1000000) : ∀ (r pre : List (List UInt8)), l = pre ++ r → ref15_Has_loop1 l s (some false) (r.length + 1) (pre.length : Int) = some (decide (s ∈ r))
 | [], pre, e => by rw [ref15_Has_loop1, e, ge_end, if_neg (by simp)]; rfl
 | y :: r, pre, e => by
  have ih := has_loop l s hl r (pre ++ [y]) (by rw [e, mid_cons])
  have hw := wrap_mid (x := y) (r := r) (pre := pre) (by rw [← e]; omega)
  rw [List.length_cons, ref15_Has_loop1]
  rw [show decide ((pre.length : Int) < (l.length : Int)) = true by rw [e]; exact lt_mid, if_pos rfl, show at? l (pre.length : Int) = some y by rw [e]; exact at?_mid, Option.bind_some, hw, ih]
  by_cases h : y = s
  · rw [if_pos (by simpa using h), decide_eq_true (by simp [h])]
  · rw [if_neg (by simpa using h)]
    congr 1
    rw [Bool.eq_iff_iff, decide_eq_true_eq, decide_eq_true_eq, List.mem_cons]
    exact ⟨.inr, fun q => q.resolve_left fun e => h e.symm⟩
theorem has_eq (l : List (List UInt8)) (s : List UInt8) (hl : l.length ≤ 1000000) : ref15_Has l s = some (decide (s ∈ l)) := by
 rw [ref15_Has, joinK, fuel0]
 exact has_loop l s hl l [] rfl
def stepsN (on : List (List UInt8)) : Nat → Node → List Step
 | 0, _ => []
 | d + 1, x => if x.kind = 0 then [x.step] else if x.kind = 1 then x.nodes.flatMap (stepsN on d) else if x.kind = 2 then (List.replicate x.count.toNat (stepsN on d (x.nodes.headD x))).flatten
  else if x.name ∈ on then stepsN on d (x.nodes.headD x) else stepsN on d ((x.nodes.drop 1).headD x)
section
variable {on : List (List UInt8)} {d : Nat} {s : Step} {l : List Node} {c : Int} {y a b : Node} {n : List UInt8}
theorem stepsN_step : stepsN on (d + 1) ⟨0, s, 0, [], []⟩ = [s] := by simp [stepsN]
theorem stepsN_list : stepsN on (d + 1) ⟨1, ⟨[], 0⟩, 0, [], l⟩ = l.flatMap (stepsN on d) := by simp [stepsN]
theorem stepsN_rep : stepsN on (d + 1) ⟨2, ⟨[], 0⟩, c, [], [y]⟩ = (List.replicate c.toNat (stepsN on d y)).flatten := by simp [stepsN]
theorem stepsN_cho : stepsN on (d + 1) ⟨3, ⟨[], 0⟩, 0, n, [a, b]⟩ = if n ∈ on then stepsN on d a else stepsN on d b := by simp [stepsN]
end
theorem stepsN_good (on : List (List UInt8)) {d : Nat} {x : Node} (h : Right d x) : ∀ s ∈ stepsN on d x, chk s = 0 := by
 induction h with
 | step d s h => intro z hz; rw [stepsN_step, List.mem_singleton] at hz; rw [hz]; exact h
 | list d l h hl k ih => intro z hz; rw [stepsN_list] at hz; obtain ⟨y, hy, hz⟩ := List.mem_flatMap.1 hz; exact ih y hy z hz
 | rep d c y h0 h1 h ih => intro z hz; rw [stepsN_rep] at hz; obtain ⟨l, hl, hz⟩ := List.mem_flatten.1 hz; rw [(List.mem_replicate.1 hl).2] at hz; exact ih z hz
 | cho d n a b h ha hb iha ihb =>
  intro z hz
  rw [stepsN_cho] at hz
  split at hz
  · exact iha z hz
  · exact ihb z hz
def capM (n : Nat) : Int := ((min n 1048577 : Nat) : Int)
theorem capM_min (n : Nat) : (if (1048577 : Int) < (n : Int) then 1048577 else (n : Int)) = capM n := by
 unfold capM
 split <;> omega
theorem capM_lt (n : Nat) : 0 ≤ capM n ∧ capM n ≤ 1048577 := by unfold capM; omega
theorem capM_cap (n : Nat) : (if (1048577 : Int) < capM n then 1048577 else capM n) = capM n := by have := capM_lt n; rw [if_neg (by omega)]
theorem mul_cap (c n : Nat) (h : 1 ≤ c) : min (c * min n 1048577) 1048577 = min (c * n) 1048577 := by
 by_cases hn : n ≤ 1048577
 · rw [show min n 1048577 = n by omega]
 · rw [show min n 1048577 = 1048577 by omega]
   have h1 : 1048577 ≤ c * 1048577 := Nat.le_mul_of_pos_left _ h
   have h2 : n ≤ c * n := Nat.le_mul_of_pos_left _ h
   omega
theorem flatten_rep_len {α : Type} (c : Nat) (l : List α) : ((List.replicate c l).flatten).length = c * l.length := by
 rw [List.length_flatten, List.map_replicate, List.sum_replicate_nat]
theorem rlen_loop (x : Node) (on : List (List UInt8)) (hl : x.nodes.length ≤ 1000) (self : Node → List (List UInt8) → Option Int) (f : Node → Nat) (hs : ∀ y ∈ x.nodes, self y on = some (capM (f y))) (K : Int → Option Int) :
 ∀ (r pre : List Node), x.nodes = pre ++ r → ref15_Long_loop1 x on self K (r.length + 1) (capM (pre.map f).sum) (pre.length : Int) = K (capM (x.nodes.map f).sum)
 | [], pre, e => by rw [ref15_Long_loop1, e, ge_end, if_neg (by simp), List.append_nil]
 | y :: r, pre, e => by
  have ih := rlen_loop x on hl self f hs K r (pre ++ [y]) (by rw [e, mid_cons])
  have hy : y ∈ x.nodes := by rw [e]; simp
  have hpl : x.nodes.length = pre.length + (r.length + 1) := by rw [e]; simp
  have hw := wrap_mid (x := y) (r := r) (pre := pre) (by rw [← e]; omega)
  have hc := capM_lt (f y)
  have hc2 := capM_lt (pre.map f).sum
  rw [List.length_cons, ref15_Long_loop1]
  rw [show decide ((pre.length : Int) < (x.nodes.length : Int)) = true by rw [e]; exact lt_mid, if_pos rfl, show at? x.nodes (pre.length : Int) = some y by rw [e]; exact at?_mid, Option.bind_some, hs y hy, Option.bind_some, hw, wrap64 (by omega) (by omega)]
  rw [List.map_append, List.sum_append] at ih
  simp only [List.map_cons, List.map_nil, List.sum_cons, List.sum_nil, Nat.add_zero] at ih
  rw [show (if (1048577 : Int) < capM (pre.map f).sum + capM (f y) then 1048577 else capM (pre.map f).sum + capM (f y)) = capM ((pre.map f).sum + f y) by unfold capM; split <;> omega]
  exact ih
theorem rlen_eq (on : List (List UInt8)) (hon : on.length ≤ 1000000) : ∀ (d n : Nat) (x : Node), d ≤ n → Right d x → ref15_Long n x on = some (capM (stepsN on d x).length) := by
 intro d n x hn h
 induction h generalizing n with
 | step d s h =>
  obtain ⟨n, rfl⟩ : ∃ k, n = k + 1 := ⟨n - 1, by omega⟩
  rw [stepsN_step]
  rfl
 | list d l h hl k ih =>
  obtain ⟨n, rfl⟩ : ∃ k, n = k + 1 := ⟨n - 1, by omega⟩
  rw [ref15_Long, ref15_Long_body, joinK, if_neg (by simp), if_pos (by rfl), fuel0, stepsN_list, List.length_flatMap]
  have := rlen_loop ⟨1, ⟨[], 0⟩, 0, [], l⟩ on (by show l.length ≤ 1000; omega) (ref15_Long n) (fun y => (stepsN on d y).length) (fun y hy => ih y hy n (by omega)) (fun i4 => some (if (1048577 : Int) < i4 then 1048577 else i4)) l [] rfl
  refine this.trans ?_
  rw [capM_cap]
 | rep d c y h0 h1 h ih =>
  obtain ⟨n, rfl⟩ : ∃ k, n = k + 1 := ⟨n - 1, by omega⟩
  rw [ref15_Long, ref15_Long_body, joinK, if_neg (by simp), if_neg (by simp), if_pos (by rfl)]
  show (ref15_Long n y on).bind _ = _
  have hc := capM_lt (stepsN on d y).length
  rw [ih n (by omega), Option.bind_some, stepsN_rep, flatten_rep_len]
  show some (if (1048577 : Int) < IntKind.wrap .i64 (c * capM (stepsN on d y).length) then 1048577 else IntKind.wrap .i64 (c * capM (stepsN on d y).length)) = _
  have hb1 : c * capM (stepsN on d y).length ≤ 64 * 1048577 := Int.mul_le_mul h1 hc.2 hc.1 (by omega)
  have hb0 : 0 ≤ c * capM (stepsN on d y).length := Int.mul_nonneg (by omega) hc.1
  rw [wrap64 (by omega) (by omega)]
  have e : c * capM (stepsN on d y).length = ((c.toNat * min (stepsN on d y).length 1048577 : Nat) : Int) := by
   unfold capM
   rw [Int.natCast_mul, show ((c.toNat : Nat) : Int) = c by omega]
  rw [e, capM_min]
  congr 1
  unfold capM
  rw [mul_cap _ _ (by omega)]
 | cho d nm a b h ha hb iha ihb =>
  obtain ⟨n, rfl⟩ : ∃ k, n = k + 1 := ⟨n - 1, by omega⟩
  rw [ref15_Long, ref15_Long_body, joinK, if_neg (by simp), if_neg (by simp), if_neg (by simp), if_pos (by rfl), stepsN_cho, joinK]
  show (ref15_Has on nm).bind _ = _
  rw [has_eq on nm hon, Option.bind_some]
  by_cases hm : nm ∈ on
  · rw [if_pos (by simpa using hm), if_pos hm]
    show (ref15_Long n a on).bind _ = _
    rw [iha n (by omega), Option.bind_some]
    dsimp only
    rw [capM_cap]
  · rw [if_neg (by simpa using hm), if_neg hm]
    show (ref15_Long n b on).bind _ = _
    rw [ihb n (by omega), Option.bind_some]
    dsimp only
    rw [capM_cap]
theorem rng2_list {σ : Type} (step : σ → Step → Option (Bool × σ)) : program_list_steps_1_rng2 step = step := by
 funext q x
 unfold program_list_steps_1_rng2
 cases step q x with
 | none => rfl
 | some r => obtain ⟨b, s⟩ := r; cases b <;> rfl
theorem rng2_rep {σ : Type} (step : σ → Step → Option (Bool × σ)) : program_repeat_steps_1_rng2 step = step := by
 funext q x
 unfold program_repeat_steps_1_rng2
 cases step q x with
 | none => rfl
 | some r => obtain ⟨b, s⟩ := r; cases b <;> rfl
theorem taken_eq (nm : List UInt8) (a b : Motion) (on : List (List UInt8)) (hon : on.length ≤ 1000000) : program_choice_taken (MChoice.mk nm a b) on = some (if nm ∈ on then a else b) := by
 rw [program_choice_taken, contains_eq on nm hon, Option.bind_some]
 by_cases hm : nm ∈ on
 · rw [if_pos (by simpa using hm), if_pos hm]
 · rw [if_neg (by simpa using hm), if_neg hm]
theorem steps_eq (on : List (List UInt8)) (hon : on.length ≤ 1000000) : ∀ (d n : Nat) (x : Node), d ≤ n → Right d x → ∃ d' x', d' ≤ d ∧ Right d' x' ∧ (mot d' x').isChoice = false ∧ steps n (mot d x) on = some (mot d' x') ∧ stepsN on d' x' = stepsN on d x := by
 intro d n x hn h
 induction h generalizing n with
 | step d s h =>
  obtain ⟨n, rfl⟩ : ∃ k, n = k + 1 := ⟨n - 1, by omega⟩
  exact ⟨d + 1, _, Nat.le_refl _, .step d s h, by rw [mot_step]; rfl, by rw [mot_step]; rfl, rfl⟩
 | list d l h hl k ih =>
  obtain ⟨n, rfl⟩ : ∃ k, n = k + 1 := ⟨n - 1, by omega⟩
  exact ⟨d + 1, _, Nat.le_refl _, .list d l h hl k, by rw [mot_list]; rfl, by rw [mot_list]; rfl, rfl⟩
 | rep d c y h0 h1 h ih =>
  obtain ⟨n, rfl⟩ : ∃ k, n = k + 1 := ⟨n - 1, by omega⟩
  exact ⟨d + 1, _, Nat.le_refl _, .rep d c y h0 h1 h, by rw [mot_rep]; rfl, by rw [mot_rep]; rfl, rfl⟩
 | cho d nm a b h ha hb iha ihb =>
  obtain ⟨n, rfl⟩ : ∃ k, n = k + 1 := ⟨n - 1, by omega⟩
  have e : ∀ m m', steps (n + 1) (.choice nm m m') on = (program_choice_taken (MChoice.mk nm m m') on).bind fun r => steps n r on := fun m m' => rfl
  rw [mot_cho, e, taken_eq nm _ _ on hon, Option.bind_some, stepsN_cho]
  by_cases hm : nm ∈ on
  · rw [if_pos hm, if_pos hm]
    obtain ⟨d', x', h1, h2, h3, h4, h5⟩ := iha n (by omega)
    exact ⟨d', x', by omega, h2, h3, h4, h5⟩
  · rw [if_neg hm, if_neg hm]
    obtain ⟨d', x', h1, h2, h3, h4, h5⟩ := ihb n (by omega)
    exact ⟨d', x', by omega, h2, h3, h4, h5⟩
section
variable {σ : Type} (step : σ → Step → Option (Bool × σ)) (on : List (List UInt8)) (self : (σ → Step → Option (Bool × σ)) → Motion → List (List UInt8) → σ → Option (Bool × σ))
theorem list_loop (l : List Node) (f : Node → Motion) (F : Node → List Step) (hl : l.length ≤ 1000) (hs : ∀ y ∈ l, ∀ z, ((steps 600 (f y) on).bind fun r1 => self (program_list_steps_1_rng2 step) r1 on z) = runL step (F y) z) :
 ∀ (r pre : List Node) (z : σ), l = pre ++ r → program_list_steps_1_loop1 (MList.mk (l.map f)) on self step (r.length + 1) z (pre.length : Int) = runL step (r.flatMap F) z
 | [], pre, z, e => by
  rw [program_list_steps_1_loop1, if_neg (by rw [e]; simp)]
  rfl
 | y :: r, pre, z, e => by
  have ih := fun z => list_loop l f F hl hs r (pre ++ [y]) z (by rw [e, mid_cons])
  have hy : y ∈ l := by rw [e]; simp
  have hpl : l.length = pre.length + (r.length + 1) := by rw [e]; simp
  have hw := wrap_mid (x := y) (r := r) (pre := pre) (by rw [← e]; omega)
  have hat : at? (l.map f) (pre.length : Int) = some (f y) := by
   have := at?_mid (pre := pre.map f) (x := f y) (r := r.map f)
   rw [List.length_map] at this
   rw [e, List.map_append, List.map_cons]
   exact this
  rw [List.length_cons, program_list_steps_1_loop1]
  show (if decide ((pre.length : Int) < ((l.map f).length : Int)) = true then (at? (l.map f) (pre.length : Int)).bind _ else _) = _
  rw [if_pos (by rw [List.length_map, decide_eq_true_eq]; omega), hat, Option.bind_some, hw, ← Option.bind_assoc, hs y hy, List.flatMap_cons, runL_append]
  congr 1
  funext q
  split
  · exact ih q.2
  · rfl
theorem rep_loop (c : Int) (p : Motion) (L : List Step) (hs : ∀ z, ((steps 600 p on).bind fun r1 => self (program_repeat_steps_1_rng2 step) r1 on z) = runL step L z) :
 ∀ (m : Nat) (i : Int) (z : σ), 0 ≤ i → i + m = c → c ≤ 1000 → program_repeat_steps_1_loop1 (MRepeat.mk c p) on self step (m + 1) z i = runL step (List.replicate m L).flatten z
 | 0, i, z, h0, h, hc => by
  rw [program_repeat_steps_1_loop1]
  show (if decide (i < c) = true then _ else _) = _
  rw [if_neg (by rw [decide_eq_true_eq]; omega)]
  rfl
 | m + 1, i, z, h0, h, hc => by
  have ih := fun z => rep_loop c p L hs m (i + 1) z (by omega) (by omega) hc
  rw [program_repeat_steps_1_loop1]
  show (if decide (i < c) = true then (steps 600 p on).bind _ else _) = _
  rw [if_pos (by rw [decide_eq_true_eq]; omega), wrap64 (by omega) (by omega), ← Option.bind_assoc, hs, List.replicate_succ, List.flatten_cons, runL_append]
  congr 1
  funext q
  split
  · exact ih q.2
  · rfl
end
theorem iter_eq {σ : Type} (on : List (List UInt8)) (hon : on.length ≤ 1000000) : ∀ (d n : Nat) (x : Node) (step : σ → Step → Option (Bool × σ)) (z : σ), d ≤ n → d ≤ 600 → Right d x → (mot d x).isChoice = false → iterRun n step (mot d x) on z = runL step (stepsN on d x) z := by
 intro d
 induction d using Nat.strongRecOn with
 | _ d ih =>
  intro n x step z hn hd h hc
  have sub : ∀ (e m : Nat) (y : Node) (z : σ), e < d → e ≤ m → Right e y → ((steps 600 (mot e y) on).bind fun r1 => iterRun m step r1 on z) = runL step (stepsN on e y) z := fun e m y z he hm hy => by
   obtain ⟨d', x', h1, h2, h3, h4, h5⟩ := steps_eq on hon e 600 y (by omega) hy
   rw [h4, Option.bind_some, ih d' (by omega) m x' step z (by omega) (by omega) h2 h3, h5]
  cases h with
  | step d s h =>
   obtain ⟨n, rfl⟩ : ∃ k, n = k + 1 := ⟨n - 1, by omega⟩
   rw [mot_step, stepsN_step, runL]
   show program_single_steps_1 step (MSingle.mk s) z = _
   rfl
  | list d l h hl k =>
   obtain ⟨n, rfl⟩ : ∃ k, n = k + 1 := ⟨n - 1, by omega⟩
   rw [mot_list, stepsN_list]
   show program_list_steps_1 step (iterRun n) (MList.mk (l.map (mot d))) on z = _
   rw [program_list_steps_1]
   show program_list_steps_1_loop1 (MList.mk (l.map (mot d))) on (iterRun n) step (Int.toNat (((l.map (mot d)).length : Int) - 0) + 1) z 0 = _
   rw [fuel0, List.length_map]
   exact list_loop step on (iterRun n) l (mot d) (stepsN on d) (by omega) (fun y hy z => by rw [rng2_list]; exact sub d n y z (by omega) (by omega) (k y hy)) l [] z rfl
  | rep d c y h0 h1 h =>
   obtain ⟨n, rfl⟩ : ∃ k, n = k + 1 := ⟨n - 1, by omega⟩
   rw [mot_rep, stepsN_rep]
   show program_repeat_steps_1 step (iterRun n) (MRepeat.mk c (mot d y)) on z = _
   rw [program_repeat_steps_1]
   show program_repeat_steps_1_loop1 (MRepeat.mk c (mot d y)) on (iterRun n) step (Int.toNat (c - 0) + 1) z 0 = _
   rw [show c - 0 = c by omega]
   exact rep_loop step on (iterRun n) c (mot d y) (stepsN on d y) (fun z => by rw [rng2_rep]; exact sub d n y z (by omega) (by omega) h) c.toNat 0 z (by omega) (by omega) (by omega)
  | cho d nm a b h ha hb => rw [mot_cho] at hc; cases hc
theorem unf_run : ∀ (L acc : List Step), acc.length ≤ 64 → (∀ s ∈ L, s.strokes.length ≤ 1000) → ∃ q, runL program_unfolded_rng1 L (acc, 0, []) = some q ∧ (if acc.length + L.length ≤ 64 then q = (true, (acc ++ L, 0, [])) else q.1 = false ∧ q.2.2 = (12, []))
 | [], acc, h, _ => ⟨_, rfl, by rw [if_pos (by simpa using h)]; simp⟩
 | a :: L, acc, h, hs => by
  rw [runL, program_unfolded_rng1]
  by_cases h1 : acc.length = 64
  · rw [if_pos (by simp [h1]), Option.bind_some]
    exact ⟨_, rfl, by rw [if_neg (by simp; omega)]; exact ⟨rfl, rfl⟩⟩
  · obtain ⟨q, h2, h3⟩ := unf_run L (acc ++ [a]) (by simp; omega) fun s hs' => hs s (List.mem_cons_of_mem _ hs')
    rw [if_neg (by simp; omega), appO_ok (by have := hs a (List.mem_cons_self ..); simp; omega) (by decide), Option.bind_some, appO_ok (by simp; omega) (by decide), Option.bind_some, Option.bind_some, if_pos rfl]
    refine ⟨q, h2, ?_⟩
    rw [List.length_append, List.append_assoc] at h3
    simp only [List.length_cons, List.length_nil, List.cons_append, List.nil_append] at h3 ⊢
    by_cases hh : acc.length + (L.length + 1) ≤ 64
    · rw [if_pos hh]; rw [if_pos (by omega)] at h3; exact h3
    · rw [if_neg hh]; rw [if_neg (by omega)] at h3; exact h3
def unfN (on : List (List UInt8)) (x : Node) : List Step × Int := if (stepsN on 16 x).length ≤ 64 then (stepsN on 16 x, 0) else ([], 12)
theorem lunf_eq (on : List (List UInt8)) (hon : on.length ≤ 1000000) (x : Node) (h : Right 16 x) : program_unfolded x on = some (unfN on x) := by
 obtain ⟨d', x', h1, h2, h3, h4, h5⟩ := steps_eq on hon 16 600 x (by omega) h
 obtain ⟨q, h6, h7⟩ := unf_run (stepsN on 16 x) [] (by simp) fun s hs => by have := (chk_zero.1 (stepsN_good on h s hs)).few; omega
 rw [program_unfolded, of_eq 16 600 x (by omega) h, Option.bind_some, h4, Option.bind_some, iter_eq on hon d' 600 x' _ _ (by omega) (by omega) h2 h3, h5, h6, Option.bind_some, unfN]
 rw [List.length_nil, Nat.zero_add, List.nil_append] at h7
 by_cases hl : (stepsN on 16 x).length ≤ 64
 · rw [if_pos hl] at h7 ⊢
   rw [h7]
   rfl
 · rw [if_neg hl] at h7 ⊢
   obtain ⟨b, a1, a2, a3⟩ := q
   obtain ⟨rfl, h8⟩ := h7
   cases h8
   rfl
theorem done_loop (l : List Node) (on : List (List UInt8)) (hl : l.length ≤ 1000) (self : Node → List (List UInt8) → Option (List Step)) (F : Node → List Step) (hs : ∀ y ∈ l, self y on = some (F y)) (hb : (l.flatMap F).length ≤ 64) :
 ∀ (r pre : List Node), l = pre ++ r → ref15_Done_loop1 ⟨1, ⟨[], 0⟩, 0, [], l⟩ on self (fun l6 => some l6) (r.length + 1) (pre.length : Int) (pre.flatMap F) = some (l.flatMap F)
 | [], pre, e => by
  rw [ref15_Done_loop1]
  show (if decide ((pre.length : Int) < (l.length : Int)) = true then _ else _) = _
  rw [if_neg (by rw [e]; simp), e, List.append_nil]
 | y :: r, pre, e => by
  have ih := done_loop l on hl self F hs hb r (pre ++ [y]) (by rw [e, mid_cons])
  have hy : y ∈ l := by rw [e]; simp
  have hpl : l.length = pre.length + (r.length + 1) := by rw [e]; simp
  have hw := wrap_mid (x := y) (r := r) (pre := pre) (by rw [← e]; omega)
  have hsz : (pre.flatMap F).length + (F y).length ≤ 64 := by
   rw [e, List.flatMap_append, List.flatMap_cons, List.length_append, List.length_append] at hb
   omega
  rw [List.length_cons, ref15_Done_loop1]
  show (if decide ((pre.length : Int) < (l.length : Int)) = true then _ else _) = _
  rw [if_pos (by rw [decide_eq_true_eq]; omega), joinK]
  show (at? l (pre.length : Int)).bind _ = _
  rw [show at? l (pre.length : Int) = some y by rw [e]; exact at?_mid, Option.bind_some, hs y hy, Option.bind_some, appO_ok (by omega) (by decide), Option.bind_some]
  show ref15_Done_loop2 ⟨1, ⟨[], 0⟩, 0, [], l⟩ _ (F y) (Int.toNat (0 - 1) + 1) 1 (pre.flatMap F ++ F y) = _
  rw [ref15_Done_loop2]
  show (if decide ((1 : Int) < 0) = true then _ else _) = _
  rw [if_neg (by decide), hw]
  rw [List.flatMap_append, List.flatMap_cons, List.flatMap_nil, List.append_nil] at ih
  exact ih
theorem done_rep (x : Node) (K : List Step → Option (List Step)) (L : List Step) : ∀ (m : Nat) (i : Int) (acc : List Step), 0 ≤ i → i + m = x.count → x.count ≤ 1000 → acc.length + m * L.length ≤ 100000 → ref15_Done_loop2 x K L (m + 1) i acc = K (acc ++ (List.replicate m L).flatten)
 | 0, i, acc, h0, h, hc, hb => by
  rw [ref15_Done_loop2, if_neg (by rw [decide_eq_true_eq]; omega)]
  simp
 | m + 1, i, acc, h0, h, hc, hb => by
  rw [Nat.succ_mul] at hb
  have ih := done_rep x K L m (i + 1) (acc ++ L) (by omega) (by omega) hc (by rw [List.length_append]; omega)
  rw [ref15_Done_loop2, if_pos (by rw [decide_eq_true_eq]; omega), appO_ok (by omega) (by decide), Option.bind_some, wrap64 (by omega) (by omega), ih, List.replicate_succ, List.flatten_cons, List.append_assoc]
theorem rdone_eq (on : List (List UInt8)) (hon : on.length ≤ 1000000) : ∀ (d n : Nat) (x : Node), d ≤ n → Right d x → (stepsN on d x).length ≤ 64 → ref15_Done n x on = some (stepsN on d x) := by
 intro d n x hn h
 induction h generalizing n with
 | step d s h =>
  intro hb
  obtain ⟨n, rfl⟩ : ∃ k, n = k + 1 := ⟨n - 1, by omega⟩
  rw [stepsN_step]
  rfl
 | list d l h hl k ih =>
  intro hb
  obtain ⟨n, rfl⟩ : ∃ k, n = k + 1 := ⟨n - 1, by omega⟩
  rw [stepsN_list] at hb ⊢
  rw [ref15_Done, ref15_Done_body, if_neg (by simp), if_neg (by simp), joinK, fuel0]
  refine done_loop l on (by omega) (ref15_Done n) (stepsN on d) (fun y hy => ih y hy n (by omega) ?_) hb l [] rfl
  rw [List.length_flatMap] at hb
  have := mem_sum (f := fun y => (stepsN on d y).length) hy
  omega
 | rep d c y h0 h1 h ih =>
  intro hb
  obtain ⟨n, rfl⟩ : ∃ k, n = k + 1 := ⟨n - 1, by omega⟩
  rw [stepsN_rep] at hb ⊢
  have hly : (stepsN on d y).length ≤ 64 := by
   rw [flatten_rep_len] at hb
   have : (stepsN on d y).length ≤ c.toNat * (stepsN on d y).length := Nat.le_mul_of_pos_left _ (by omega)
   omega
  have hmul : (c.toNat - 1) * (stepsN on d y).length ≤ 64 * 64 := Nat.mul_le_mul (by omega) hly
  rw [ref15_Done, ref15_Done_body, if_neg (by simp), if_neg (by simp), joinK, fuel0]
  show ref15_Done_loop1 ⟨2, ⟨[], 0⟩, c, [], [y]⟩ on (ref15_Done n) _ (1 + 1) 0 [] = _
  rw [ref15_Done_loop1, if_pos (by rfl), joinK]
  show (ref15_Done n y on).bind _ = _
  rw [ih n (by omega) hly, Option.bind_some, appO_ok (by simp; omega) (by decide), Option.bind_some, List.nil_append]
  show ref15_Done_loop2 ⟨2, ⟨[], 0⟩, c, [], [y]⟩ _ (stepsN on d y) (Int.toNat (c - 1) + 1) 1 (stepsN on d y) = _
  rw [show Int.toNat (c - 1) = c.toNat - 1 by omega, done_rep _ _ _ (c.toNat - 1) 1 _ (by omega) (by show 1 + ((c.toNat - 1 : Nat) : Int) = c; omega) (by show c ≤ 1000; omega) (by omega)]
  rw [show c.toNat = (c.toNat - 1) + 1 by omega, List.replicate_succ, List.flatten_cons, Nat.add_sub_cancel]
  rfl
 | cho d nm a b h ha hb iha ihb =>
  intro hb
  obtain ⟨n, rfl⟩ : ∃ k, n = k + 1 := ⟨n - 1, by omega⟩
  rw [stepsN_cho] at hb ⊢
  rw [ref15_Done, ref15_Done_body, if_neg (by simp), if_pos (by rfl)]
  show (ref15_Has on nm).bind _ = _
  rw [has_eq on nm hon, Option.bind_some]
  by_cases hm : nm ∈ on
  · rw [if_pos hm] at hb ⊢
    rw [if_pos (by simpa using hm)]
    show (ref15_Done n a on).bind _ = _
    rw [iha n (by omega) hb]
    rfl
  · rw [if_neg hm] at hb ⊢
    rw [if_neg (by simpa using hm)]
    show (ref15_Done n b on).bind _ = _
    rw [ihb n (by omega) hb]
    rfl
theorem awake_true : law15_awake = some true := by kernel_rfl
theorem ldone2 (x : Step) (K : Int → Option (Sequence × Int)) (hl : x.strokes.length ≤ 100) (hp : ∀ y ∈ x.strokes, 0 ≤ y.actuator ∧ y.actuator < 6) : ∀ (r pre : List Stroke) (n : Int), x.strokes = pre ++ r → program_done_loop2 K x (r.length + 1) (pre.length : Int) n = K (ofF n r)
 | [], pre, n, e => by
  rw [program_done_loop2, end_mid e]
  simp [ofF]
 | y :: r, pre, n, e => by
  obtain ⟨h1, h2, h3, h4, h5⟩ := step_mid e (by omega)
  have hy := hp y (by rw [e]; simp)
  have ih := fun n => ldone2 x K hl hp r (pre ++ [y]) n h4
  rw [List.length_cons, program_done_loop2, h1, if_pos rfl, h2, Option.bind_some, h3, wrap64 (x := y.actuator + 1) (by omega) (by omega), ih, ofF_cons]
theorem ldone1 (r1 : List Step × Int) (K : Int → Option (Sequence × Int)) (hl : r1.1.length ≤ 100) (hp : ∀ x ∈ r1.1, GoodS x) : ∀ (r pre : List Step) (n : Int), r1.1 = pre ++ r → program_done_loop1 r1 K (r.length + 1) (pre.length : Int) n = K (ofF n (flat r))
 | [], pre, n, e => by
  rw [program_done_loop1, end_mid e]
  simp [ofF, flat]
 | x :: r, pre, n, e => by
  obtain ⟨h1, h2, h3, h4, h5⟩ := step_mid e (by omega)
  have g := hp x (by rw [e]; simp)
  have ih := fun n => ldone1 r1 K hl hp r (pre ++ [x]) n h4
  rw [List.length_cons, program_done_loop1, h1, if_pos rfl, h2, joinK, Option.bind_some, h3, fuel0]
  have hf := g.few
  refine (ldone2 x _ (by omega) (fun y hy => ⟨(asc_mem g.asc y hy).1, (asc_mem g.asc y hy).2.1⟩) x.strokes [] n rfl).trans ?_
  rw [ih, show flat (x :: r) = x.strokes ++ flat r from rfl, ofF_app]
def seqN (on : List (List UInt8)) (x : Node) : Sequence × Int :=
 if (unfN on x).2 ≠ 0 then (⟨0, []⟩, (unfN on x).2) else if checkE ⟨ofF 0 (flat (unfN on x).1), (unfN on x).1⟩ ≠ 0 then (⟨0, []⟩, checkE ⟨ofF 0 (flat (unfN on x).1), (unfN on x).1⟩) else (⟨ofF 0 (flat (unfN on x).1), (unfN on x).1⟩, 0)
theorem unfN_good (on : List (List UInt8)) {x : Node} (h : Right 16 x) : (unfN on x).1.length ≤ 64 ∧ ∀ s ∈ (unfN on x).1, GoodS s := by
 unfold unfN
 split
 · rename_i hl
   exact ⟨hl, fun s hs => chk_zero.1 (stepsN_good on h s hs)⟩
 · exact ⟨by simp, fun s hs => by cases hs⟩
theorem ldoneN_eq (on : List (List UInt8)) (hon : on.length ≤ 1000000) (x : Node) (h : Right 16 x) : program_done x on = some (seqN on x) := by
 obtain ⟨hl, hg⟩ := unfN_good on h
 rw [program_done, lunf_eq on hon x h, Option.bind_some, seqN]
 by_cases h0 : (unfN on x).2 = 0
 · rw [if_neg (by simpa using h0), if_neg (by simpa using h0), joinK, fuel0]
   refine (ldone1 (unfN on x) _ (by omega) hg (unfN on x).1 [] 0 rfl).trans ?_
   rw [lcheck14, Option.bind_some]
   by_cases hc : checkE ⟨ofF 0 (flat (unfN on x).1), (unfN on x).1⟩ = 0
   · rw [if_neg (by simpa using hc), if_neg (by simpa using hc)]
   · rw [if_pos (by simpa using hc), if_pos hc]
 · rw [if_pos (by simpa using h0), if_pos h0]
def ifOk {α : Type} (x : Node) (z : α) (r : α × Int) : α × Int := if checkN x ≠ 0 then (z, checkN x) else r
section
variable (x : Node) (g : GoodN x) (hN : lightB x = true → NamOk x) (on : List (List UInt8)) (hon : on.length ≤ 1000000)
include g hN
theorem ok_of {α : Type} {f : Option (α × Int)} {z : α} {r : α × Int} (k : Right 16 x → cntT 16 x ≤ 256 → f = some r) (e : Int) (he : e = checkN x) : (if (e != 0) = true then some (z, e) else f) = some (ifOk x z r) := by
 subst he
 unfold ifOk
 by_cases h : checkN x = 0
 · rw [if_neg (by simpa using h), if_neg (by simpa using h)]
   exact k (check_right.1 h).1 (check_right.1 h).2
 · rw [if_pos (by simpa using h), if_pos h]
include hon
theorem rUnfold_eq : ref15_Unfold x on = some (ifOk x [] (unfN on x)) := by
 rw [ref15_Unfold, rcheckN_eq x g hN, Option.bind_some]
 refine ok_of x g hN (fun h _ => ?_) _ rfl
 rw [rlen_eq on hon 16 600 x (by omega) h, Option.bind_some, unfN]
 by_cases hl : (stepsN on 16 x).length ≤ 64
 · rw [if_neg (by rw [decide_eq_true_eq]; unfold capM; omega), if_pos hl, rdone_eq on hon 16 600 x (by omega) h hl, Option.bind_some]
 · rw [if_pos (by rw [decide_eq_true_eq]; unfold capM; omega), if_neg hl]
theorem rSequence_eq : ref15_Sequence x on = some (ifOk x ⟨0, []⟩ (seqN on x)) := by
 rw [ref15_Sequence, rUnfold_eq x g hN on hon, Option.bind_some]
 by_cases h : checkN x = 0
 · have e1 : ifOk x [] (unfN on x) = unfN on x := if_neg (by simpa using h)
   have e2 : ifOk x ⟨0, []⟩ (seqN on x) = seqN on x := if_neg (by simpa using h)
   rw [e1, e2, seqN]
   obtain ⟨hl, hg⟩ := unfN_good on (check_right.1 h).1
   by_cases h0 : (unfN on x).2 = 0
   · rw [if_neg (by simpa using h0), if_neg (by simpa using h0), rof_eq _ (by omega) hg, Option.bind_some, rcheck14, Option.bind_some]
     by_cases hc : checkE ⟨ofF 0 (flat (unfN on x).1), (unfN on x).1⟩ = 0
     · rw [if_neg (by simpa using hc), if_neg (by simpa using hc)]
     · rw [if_pos (by simpa using hc), if_pos hc]
   · rw [if_pos (by simpa using h0), if_pos h0]
 · have e1 : ifOk x [] (unfN on x) = ([], checkN x) := if_pos h
   have e2 : ifOk x ⟨0, []⟩ (seqN on x) = (⟨0, []⟩, checkN x) := if_pos h
   rw [e1, e2, if_pos (by simpa using h)]
end
def all2 {α : Type} (f : α → α → Bool) : List α → List α → Bool
 | [], [] => true
 | x :: r, y :: q => f x y && all2 f r q
 | _, _ => false
def eqN : Nat → Node → Node → Bool
 | 0, _, _ => false
 | d + 1, a, b => a.kind == b.kind && sameB a.step b.step && a.count == b.count && a.name == b.name && all2 (eqN d) a.nodes b.nodes
inductive StrOk : Node → Prop
 | mk (x : Node) (h : x.step.strokes.length ≤ 100000) (h2 : x.nodes.length ≤ maxLen) (k : ∀ y ∈ x.nodes, StrOk y) : StrOk x
theorem StrOk.here {x : Node} (h : StrOk x) : x.step.strokes.length ≤ 100000 ∧ x.nodes.length ≤ maxLen := by cases h with | mk _ a b _ => exact ⟨a, b⟩
theorem StrOk.sub {x y : Node} (h : StrOk x) (hy : y ∈ x.nodes) : StrOk y := by cases h with | mk _ _ _ k => exact k y hy
theorem right_str {d : Nat} {x : Node} (h : Right d x) : StrOk x := by
 induction h with
 | step d s h => exact .mk _ (by have := (chk_zero.1 h).few; show s.strokes.length ≤ 100000; omega) (by simp) (fun y hy => by cases hy)
 | list d l h hl k ih => exact .mk _ (by simp) (by show l.length ≤ maxLen; rw [maxLen_eq]; omega) ih
 | rep d c y h0 h1 h ih => exact .mk _ (by simp) (by simp [maxLen_eq]) (fun z hz => by rw [List.mem_singleton.1 hz]; exact ih)
 | cho d n a b h ha hb iha ihb => exact .mk _ (by simp) (by simp [maxLen_eq]) (fun z hz => by
  rcases List.mem_cons.1 hz with rfl | hz
  · exact iha
  · rw [List.mem_singleton.1 hz]; exact ihb)
theorem all2_len {α : Type} {f : α → α → Bool} : ∀ {l q : List α}, l.length ≠ q.length → all2 f l q = false
 | [], [], h => absurd rfl h
 | [], _ :: _, _ => rfl
 | _ :: _, [], _ => rfl
 | x :: l, y :: q, h => by rw [all2, all2_len (fun e => h (by simp [e])), Bool.and_false]
theorem rquery_loop (a b : Node) (hb : a.nodes.length ≤ maxLen) (self : Node → Node → Option Bool) (f : Node → Node → Bool) (hs : ∀ x ∈ a.nodes, ∀ y, self x y = some (f x y)) :
 ∀ (r q pre pre2 : List Node), a.nodes = pre ++ r → b.nodes = pre2 ++ q → pre.length = pre2.length → r.length = q.length → ref15_equal_loop1 a b self (some true) (r.length + 1) (pre.length : Int) = some (all2 f r q)
 | [], [], pre, pre2, e, _, _, _ => by
  rw [ref15_equal_loop1, end_mid e]
  rfl
 | x :: r, y :: q, pre, pre2, e, e2, hp, hl => by
  have ih := rquery_loop a b hb self f hs r q (pre ++ [x]) (pre2 ++ [y]) (by rw [e, mid_cons]) (by rw [e2, mid_cons]) (by simp [hp]) (by simpa using hl)
  have hw := wrap_max e hb
  have a1 : at? a.nodes (pre.length : Int) = some x := by rw [e]; exact at?_mid
  have a2 : at? b.nodes (pre.length : Int) = some y := by rw [e2, hp]; exact at?_mid
  rw [List.length_cons, ref15_equal_loop1, show decide ((pre.length : Int) < (a.nodes.length : Int)) = true by rw [e]; exact lt_mid, if_pos rfl, a1, Option.bind_some, a2, Option.bind_some, hs x (by rw [e]; simp), Option.bind_some, hw, ih, all2]
  cases f x y <;> simp
 | [], _ :: _, _, _, _, _, _, h => by simp at h
 | _ :: _, [], _, _, _, _, _, h => by simp at h
theorem requal_eq : ∀ (d n : Nat) (a b : Node), d ≤ n → deepN d a = true → StrOk a → ref15_equal n a b = some (eqN d a b)
 | 0, n, a, b, _, h, _ => by cases h
 | d + 1, 0, a, b, hn, _, _ => by omega
 | d + 1, n + 1, a, b, hn, h, k => by
  rw [ref15_equal, ref15_equal_body, rsame_eq _ _ k.here.1, eqN, joinK, fuel0]
  by_cases hl : a.nodes.length = b.nodes.length
  · have hE := rquery_loop a b k.here.2 _ (eqN d) (fun x hx y => requal_eq d n x y (by omega) (deepN_sub h hx) (k.sub hx)) a.nodes b.nodes [] [] rfl rfl rfl hl
    have h0 : ((([] : List Node).length : Nat) : Int) = 0 := rfl
    rw [h0] at hE
    have hl' : ((a.nodes.length : Int) != (b.nodes.length : Int)) = false := by simp; omega
    rw [hE, hl', bne, bne]
    cases a.kind == b.kind <;> cases sameB a.step b.step <;> cases a.count == b.count <;> cases a.name == b.name <;> simp
  · have hl' : ((a.nodes.length : Int) != (b.nodes.length : Int)) = true := by simp; omega
    rw [hl', Bool.or_true, if_pos rfl, Option.bind_some, if_pos rfl, all2_len hl, Bool.and_false]
def sameN (a b : Node) : Bool := lightB a && lightB b && eqN 16 a b
theorem rSame_eq (a b : Node) (ga : GoodN a) (gb : GoodN b) (k : lightB a = true → StrOk a) : ref15_Same a b = some (sameN a b) := by
 rw [ref15_Same, rlight_eq a ga, rlight_eq b gb, sameN]
 cases ha : lightB a with
 | false => rfl
 | true =>
  cases hb : lightB b with
  | false => rfl
  | true =>
   rw [requal_eq 16 600 a b (by omega) (light_iff.1 ha).2 (k ha)]
   rfl
theorem all2_refl {α : Type} {f : α → α → Bool} : ∀ {l : List α}, (∀ x ∈ l, f x x = true) → all2 f l l = true
 | [], _ => rfl
 | x :: l, h => by rw [all2, h x (List.mem_cons_self ..), all2_refl fun y hy => h y (List.mem_cons_of_mem _ hy)]; rfl
theorem eqN_refl : ∀ (d : Nat) (x : Node), deepN d x = true → eqN d x x = true
 | 0, x, h => by cases h
 | d + 1, x, h => by
  rw [eqN, all2_refl fun y hy => eqN_refl d y (deepN_sub h hy), sameB_refl]
  simp
theorem sameN_refl {x : Node} (h : Right 16 x) (hc : cntT 16 x ≤ 256) : sameN x x = true := by
 have hl := light_iff.2 ⟨hc, right_deep h⟩
 rw [sameN, hl, eqN_refl 16 x (right_deep h)]
 rfl
section
variable {d : Nat} {s : Step} {l : List Node} {c : Int} {y a b : Node} {n : List UInt8}
end
theorem sum_mul {α : Type} {f g : α → Nat} {m : Nat} {l : List α} (h : ∀ y ∈ l, f y ≤ m * g y) : (l.map f).sum ≤ m * (l.map g).sum := by
 induction l with
 | nil => simp
 | cons a l ih =>
  have h1 := h a (List.mem_cons_self ..)
  have h2 := ih fun y hy => h y (List.mem_cons_of_mem _ hy)
  rw [List.map_cons, List.map_cons, List.sum_cons, List.sum_cons, Nat.mul_add]
  omega
section
variable (x : Node) (g : GoodN x) (hN : lightB x = true → NamOk x)
include g hN
end
abbrev Txt := List UInt8
theorem bLess : ∀ (x y : Txt), Op.bytesLess x y = decide (x < y)
 | [], [] => by simp [Op.bytesLess]
 | _ :: _, [] => by simp [Op.bytesLess]
 | [], _ :: _ => by simp [Op.bytesLess]
 | a :: x, b :: y => by
  rw [Op.bytesLess, bLess x y]
  simp only [List.cons_lt_cons_iff]
  by_cases h1 : a < b <;> by_cases h2 : a = b <;> by_cases h3 : x < y <;> simp [h1, h2, h3]
theorem txt_irrefl {a : Txt} (h : a < a) : False := List.lt_irrefl a h
def namesN : Nat → Node → List Txt
 | 0, x => if x.kind = 3 then [x.name] else []
 | d + 1, x => (if x.kind = 3 then [x.name] else []) ++ x.nodes.flatMap (namesN d)
theorem inputs_run : ∀ (L : List (Int × Node)) (acc : List Txt), acc.length + L.length ≤ 100000 → runL program_inputs_rng1 L acc = some (true, acc ++ L.flatMap fun a => if a.2.kind = 3 then [a.2.name] else [])
 | [], acc, _ => by simp [runL]
 | a :: L, acc, h => by
  rw [List.length_cons] at h
  rw [runL, program_inputs_rng1, joinK]
  by_cases h3 : a.2.kind = 3
  · rw [if_pos (by simpa using h3), appO_ok (by simp; omega) (by decide), Option.bind_some, Option.bind_some, if_pos rfl, inputs_run L (acc ++ [a.2.name]) (by simp; omega), List.flatMap_cons, if_pos h3]
    simp
  · rw [if_neg (by simpa using h3), Option.bind_some, if_pos rfl, inputs_run L acc (by omega), List.flatMap_cons, if_neg h3]
    simp
theorem namesN_pre : ∀ (m : Nat) (k : Int) (x : Node), (preL m k x).flatMap (fun a => if a.2.kind = 3 then [a.2.name] else []) = namesN m x
 | 0, k, x => by simp [preL, namesN]
 | m + 1, k, x => by
  rw [preL, namesN, List.flatMap_cons, List.flatMap_assoc]
  congr 1
  induction x.nodes with
  | nil => rfl
  | cons y r ih => rw [List.flatMap_cons, List.flatMap_cons, ih, namesN_pre m (k + 1) y]
theorem namesN_len : ∀ (d : Nat) (x : Node), (namesN d x).length ≤ cntT d x
 | 0, x => by rw [namesN, cntT]; split <;> simp
 | d + 1, x => by
  rw [namesN, cntT, List.length_append, List.length_flatMap]
  have h1 : (x.nodes.map fun y => (namesN d y).length).sum ≤ 1 * (x.nodes.map (cntT d)).sum := sum_mul fun y _ => by have := namesN_len d y; omega
  have h2 : (if x.kind = 3 then [x.name] else []).length ≤ 1 := by split <;> simp
  omega
def Up (l : List Txt) : Prop := l.Pairwise (· < ·)
theorem up_unique : ∀ {a b : List Txt}, Up a → Up b → (∀ s, s ∈ a ↔ s ∈ b) → a = b
 | [], [], _, _, _ => rfl
 | [], y :: b, _, _, h => absurd ((h y).2 (List.mem_cons_self ..)) (by simp)
 | x :: a, [], _, _, h => absurd ((h x).1 (List.mem_cons_self ..)) (by simp)
 | x :: a, y :: b, ha, hb, h => by
  obtain ⟨ha1, ha2⟩ := List.pairwise_cons.1 ha
  obtain ⟨hb1, hb2⟩ := List.pairwise_cons.1 hb
  have e : x = y := by
   rcases List.mem_cons.1 ((h x).1 (List.mem_cons_self ..)) with e | h1
   · exact e
   · rcases List.mem_cons.1 ((h y).2 (List.mem_cons_self ..)) with e | h2
     · exact e.symm
     · exact absurd (List.lt_trans (hb1 x h1) (ha1 y h2)) txt_irrefl
  subst e
  congr 1
  refine up_unique ha2 hb2 fun s => ⟨fun hs => ?_, fun hs => ?_⟩
  · rcases List.mem_cons.1 ((h s).1 (List.mem_cons_of_mem _ hs)) with e | h1
    · rw [e] at hs; exact absurd (ha1 x hs) txt_irrefl
    · exact h1
  · rcases List.mem_cons.1 ((h s).2 (List.mem_cons_of_mem _ hs)) with e | h1
    · rw [e] at hs; exact absurd (hb1 x hs) txt_irrefl
    · exact h1
theorem compact_props (zs : List Txt) (hs : zs.Pairwise (· ≤ ·)) : ∀ m, m ≤ zs.length → (∀ x, x ∈ Go.Lib.compactUpTo zs.toArray m ↔ x ∈ zs.take m) ∧ Up (Go.Lib.compactUpTo zs.toArray m)
 | 0, _ => by simp [Go.Lib.compactUpTo, Up]
 | m + 1, hm => by
  obtain ⟨h1, h2⟩ := compact_props zs hs m (by omega)
  have hm' : m < zs.length := by omega
  have hd : zs.toArray[m]! = zs[m] := by simp [hm']
  have ht : zs.take (m + 1) = zs.take m ++ [zs[m]] := by rw [List.take_add_one, List.getElem?_eq_getElem hm']; rfl
  have hle : ∀ x ∈ zs.take m, x ≤ zs[m] := fun x hx => by
   obtain ⟨i, hi, rfl⟩ := List.getElem_of_mem hx
   rw [List.getElem_take]
   rw [List.length_take] at hi
   exact List.pairwise_iff_getElem.1 hs i m (by omega) hm' (by omega)
  rw [Go.Lib.compactUpTo_succ, hd, ht]
  by_cases hk : Go.Lib.keeps zs.toArray m = true
  · rw [if_pos hk]
    refine ⟨fun x => by rw [List.mem_append, List.mem_append, h1], List.pairwise_append.2 ⟨h2, List.pairwise_singleton .., fun x hx y hy => ?_⟩⟩
    rw [List.mem_singleton.1 hy]
    have hx' := (h1 x).1 hx
    refine Std.lt_of_le_of_ne (hle x hx') fun e => ?_
    unfold Go.Lib.keeps at hk
    rw [decide_eq_true_eq] at hk
    rcases hk with h0 | hk
    · subst h0; simp at hx'
    · apply hk
      have hp : 0 < m := by
       cases m with
       | zero => simp at hx'
       | succ m => omega
      have hd2 : zs.toArray[m - 1]! = zs[m - 1] := by simp [show m - 1 < zs.length by omega]
      rw [hd, hd2]
      obtain ⟨i, hi, hxe⟩ := List.getElem_of_mem hx'
      rw [List.getElem_take] at hxe
      rw [List.length_take] at hi
      have a1 : zs[i] ≤ zs[m - 1] := by
       by_cases q : i = m - 1
       · subst q; exact List.le_refl _
       · exact List.pairwise_iff_getElem.1 hs i (m - 1) (by omega) (by omega) (by omega)
      have a2 : zs[m - 1] ≤ zs[m] := List.pairwise_iff_getElem.1 hs (m - 1) m (by omega) hm' (by omega)
      rw [hxe, e] at a1
      exact List.le_antisymm a1 a2
  · rw [if_neg hk, List.append_nil]
    refine ⟨fun x => ?_, h2⟩
    rw [List.mem_append, h1, List.mem_singleton]
    refine ⟨.inl, fun q => q.elim id fun e => ?_⟩
    have hk' : Go.Lib.keeps zs.toArray m = false := by simpa using hk
    unfold Go.Lib.keeps at hk'
    rw [decide_eq_false_iff_not, not_or, Classical.not_not] at hk'
    have hp : 0 < m := by omega
    have hd2 : zs.toArray[m - 1]! = zs[m - 1] := by simp [show m - 1 < zs.length by omega]
    rw [hd, hd2] at hk'
    rw [e, hk'.2]
    refine List.mem_iff_getElem.2 ⟨m - 1, by rw [List.length_take]; omega, ?_⟩
    rw [List.getElem_take]
def setN (l : List Txt) : List Txt := Go.Lib.compact (l.mergeSort fun x y => decide (x ≤ y))
theorem setN_props (l : List Txt) : (∀ x, x ∈ setN l ↔ x ∈ l) ∧ Up (setN l) := by
 have hs : (l.mergeSort fun x y => decide (x ≤ y)).Pairwise (· ≤ ·) := by
  have := List.pairwise_mergeSort (le := fun x y : Txt => decide (x ≤ y)) (fun a b c h k => by rw [decide_eq_true_eq] at *; exact List.le_trans h k) (fun a b => by rw [Bool.or_eq_true, decide_eq_true_eq, decide_eq_true_eq]; exact List.le_total a b) l
  exact this.imp fun h => by simpa using h
 obtain ⟨h1, h2⟩ := compact_props _ hs _ (Nat.le_refl _)
 refine ⟨fun x => ?_, h2⟩
 unfold setN Go.Lib.compact
 rw [h1, List.take_length, List.mem_mergeSort]
def inpN (x : Node) : List Txt := setN (namesN 16 x)
theorem linputs_eq (x : Node) (g : GoodN x) (hc : cntT 16 x ≤ 256) : program_inputs x = some (inpN x) := by
 have hl := namesN_len 16 x
 rw [program_inputs, preorder_eq _ x _ g, inputs_run _ _ (by rw [preL_len]; simp; omega), Option.bind_some, if_pos rfl, List.nil_append, namesN_pre]
 show (sortS (namesN 16 x)).bind _ = _
 rw [sortS, if_pos (by omega), Option.bind_some, compactS, if_pos (by rw [List.length_mergeSort]; omega), Option.bind_some]
 rfl
def putGo (s : Txt) : Bool → List Txt → List Txt
 | done, [] => if done = true then [] else [s]
 | done, a :: l => (if (!done && !(Op.bytesLess a s)) = true then [s] else []) ++ (if a = s then [] else [a]) ++ putGo s (done || !(Op.bytesLess a s)) l
theorem put_loop (L : List Txt) (s : Txt) (hl : L.length ≤ 1000000) : ∀ (r pre acc : List Txt) (done : Bool), L = pre ++ r → acc.length ≤ 2 * pre.length + 1 → ref15_Put_loop1 L s (fun c5 l6 => joinK (fun l8 => some l8) fun k4 => if (!c5) = true then (appO 16 l6 ([s] : List Txt)).bind fun _ => k4 (l6 ++ ([s] : List Txt)) else k4 l6) (r.length + 1) done (pre.length : Int) acc = some (acc ++ putGo s done r)
 | [], pre, acc, done, e, ha => by
  have hpl : L.length = pre.length := by rw [e]; simp
  rw [ref15_Put_loop1, end_mid e, if_neg (by simp), joinK, putGo]
  cases done with
  | true => simp
  | false => rw [if_pos (by simp), appO_ok (by simp; omega) (by decide)]; simp
 | a :: r, pre, acc, done, e, ha => by
  obtain ⟨h1, h2, h3, h4, h5⟩ := step_mid e (by omega)
  have ih := fun acc done => put_loop L s hl r (pre ++ [a]) acc done h4
  have hp : (pre ++ [a]).length = pre.length + 1 := by simp
  rw [List.length_cons, ref15_Put_loop1, h1, if_pos rfl, joinK, joinK, h2, h3, putGo]
  have second : ∀ (c3 : Bool) (l3 : List Txt), l3.length ≤ 2 * pre.length + 2 → (Option.bind (some a) fun x2 => if (!(x2 == s)) = true then (Option.bind (some a) fun x3 => (appO 16 l3 ([x3] : List Txt)).bind fun _ => ref15_Put_loop1 L s (fun c5 l6 => joinK (fun l8 => some l8) fun k4 => if (!c5) = true then (appO 16 l6 ([s] : List Txt)).bind fun _ => k4 (l6 ++ ([s] : List Txt)) else k4 l6) (r.length + 1) c3 ((pre ++ [a]).length : Int) (l3 ++ ([x3] : List Txt))) else ref15_Put_loop1 L s (fun c5 l6 => joinK (fun l8 => some l8) fun k4 => if (!c5) = true then (appO 16 l6 ([s] : List Txt)).bind fun _ => k4 (l6 ++ ([s] : List Txt)) else k4 l6) (r.length + 1) c3 ((pre ++ [a]).length : Int) l3) = some (l3 ++ ((if a = s then [] else [a]) ++ putGo s c3 r)) := by
   intro c3 l3 hl3
   rw [Option.bind_some]
   by_cases he : a = s
   · rw [if_neg (by simp [he]), if_pos he, ih l3 c3 (by omega), List.nil_append]
   · rw [if_pos (by simpa using he), if_neg he, Option.bind_some, appO_ok (by simp; omega) (by decide), Option.bind_some, ih _ c3 (by simp; omega)]
     simp
  cases done with
  | true =>
   rw [if_neg (by simp), Option.bind_some, if_neg (by simp)]
   dsimp only
   rw [second true acc (by omega)]
   simp
  | false =>
   rw [if_pos (by simp), Option.bind_some, Option.bind_some]
   cases hb : Op.bytesLess a s with
   | true =>
    rw [if_neg (by simp)]
    dsimp only
    rw [second false acc (by omega)]
    simp
   | false =>
    rw [if_pos (by simp), appO_ok (by simp; omega) (by decide), Option.bind_some]
    dsimp only
    rw [second true _ (by simp; omega)]
    simp
theorem put_eq (l : List Txt) (s : Txt) (hl : l.length ≤ 1000000) : ref15_Put l s = some (putGo s false l) := by
 rw [ref15_Put, joinK, fuel0]
 exact put_loop l s hl l [] [] false rfl (by simp)
theorem putGo_true (s : Txt) : ∀ {l : List Txt}, (∀ a ∈ l, a ≠ s) → putGo s true l = l
 | [], _ => by simp [putGo]
 | a :: l, h => by
  rw [putGo, if_neg (by simp), if_neg (h a (List.mem_cons_self ..)), Bool.true_or, putGo_true s fun b hb => h b (List.mem_cons_of_mem _ hb)]
  simp
theorem putGo_props (s : Txt) : ∀ {l : List Txt}, Up l → (∀ x, x ∈ putGo s false l ↔ x = s ∨ x ∈ l) ∧ Up (putGo s false l)
 | [], _ => by simp [putGo, Up]
 | a :: l, h => by
  obtain ⟨h1, h2⟩ := List.pairwise_cons.1 h
  rw [putGo, bLess]
  by_cases hb : a < s
  · have hne : a ≠ s := fun e => by rw [e] at hb; exact txt_irrefl hb
    obtain ⟨q1, q2⟩ := putGo_props s h2
    rw [decide_eq_true hb, if_neg (by simp), if_neg hne]
    simp only [List.nil_append, Bool.not_true, Bool.or_false, List.singleton_append]
    refine ⟨fun x => ?_, List.pairwise_cons.2 ⟨fun y hy => ?_, q2⟩⟩
    · rw [List.mem_cons, q1, List.mem_cons]
      constructor
      · rintro (e | e | e)
        · exact .inr (.inl e)
        · exact .inl e
        · exact .inr (.inr e)
      · rintro (e | e | e)
        · exact .inr (.inl e)
        · exact .inl e
        · exact .inr (.inr e)
    · rcases (q1 y).1 hy with e | hy
      · rw [e]; exact hb
      · exact h1 y hy
  · rw [decide_eq_false hb, if_pos (by simp)]
    simp only [Bool.not_false, Bool.or_true]
    by_cases he : a = s
    · subst he
      rw [if_pos rfl, putGo_true a fun b hb' e => by rw [e] at hb'; exact txt_irrefl (h1 a hb')]
      refine ⟨fun x => by simp, ?_⟩
      exact List.pairwise_cons.2 ⟨h1, h2⟩
    · have hs : s < a := Std.lt_of_le_of_ne (List.not_lt.1 hb) fun e => he e.symm
      rw [if_neg he, putGo_true s fun b hb' e => by rw [e] at hb'; exact txt_irrefl (List.lt_trans hs (h1 s hb'))]
      refine ⟨fun x => by simp, ?_⟩
      refine List.pairwise_cons.2 ⟨fun y hy => ?_, h⟩
      rcases List.mem_cons.1 hy with e | hy
      · rw [e]; exact hs
      · exact List.lt_trans hs (h1 y hy)
theorem putGo_len (s : Txt) : ∀ (l : List Txt) (b : Bool), (putGo s b l).length ≤ l.length + 1 ∧ (b = true → (putGo s b l).length ≤ l.length)
 | [], b => by cases b <;> simp [putGo]
 | a :: l, b => by
  obtain ⟨h1, h2⟩ := putGo_len s l (b || !(Op.bytesLess a s))
  rw [putGo]
  have h3 : (if a = s then ([] : List Txt) else [a]).length ≤ 1 := by split <;> simp
  cases b with
  | true =>
   have := h2 (by simp)
   rw [if_neg (by simp)]
   simp only [List.nil_append, List.length_append, List.length_cons]
   exact ⟨by omega, fun _ => by omega⟩
  | false =>
   cases hb : Op.bytesLess a s with
   | true =>
    rw [hb] at h1
    rw [if_neg (by simp)]
    simp only [List.nil_append, List.length_append, List.length_cons]
    exact ⟨by omega, fun q => by cases q⟩
   | false =>
    rw [hb] at h2
    have := h2 (by simp)
    rw [if_pos (by simp)]
    simp only [List.length_append, List.length_cons, List.length_nil]
    exact ⟨by omega, fun q => by cases q⟩
def putAll (l : List Txt) (r : List Txt) : List Txt := r.foldl (fun l s => putGo s false l) l
theorem putAll_props : ∀ {r l : List Txt}, Up l → (∀ x, x ∈ putAll l r ↔ x ∈ l ∨ x ∈ r) ∧ Up (putAll l r)
 | [], l, h => ⟨fun x => by simp [putAll], h⟩
 | s :: r, l, h => by
  obtain ⟨h1, h2⟩ := putGo_props s h
  obtain ⟨h3, h4⟩ := putAll_props (r := r) h2
  refine ⟨fun x => ?_, h4⟩
  show x ∈ putAll (putGo s false l) r ↔ _
  rw [h3, h1, List.mem_cons]
  constructor
  · rintro ((e | e) | e)
    · exact .inr (.inl e)
    · exact .inl e
    · exact .inr (.inr e)
  · rintro (e | e | e)
    · exact .inl (.inr e)
    · exact .inl (.inl e)
    · exact .inr e
theorem putAll_len : ∀ (r l : List Txt), (putAll l r).length ≤ l.length + r.length
 | [], l => by simp [putAll]
 | s :: r, l => by
  have h1 := putAll_len r (putGo s false l)
  have h2 := (putGo_len s l false).1
  show (putAll (putGo s false l) r).length ≤ _
  rw [List.length_cons]
  omega
theorem asked_loop2 (r2 : List Txt) (K : List Txt → Option (List Txt)) (hl : r2.length ≤ 1000) : ∀ (r pre l : List Txt), r2 = pre ++ r → l.length ≤ 100000 + pre.length → ref15_Asked_loop2 K r2 (r.length + 1) l (pre.length : Int) = K (putAll l r)
 | [], pre, l, e, hb => by rw [ref15_Asked_loop2, end_mid e]; rfl
 | s :: r, pre, l, e, hb => by
  obtain ⟨h1, h2, h3, h4, h5⟩ := step_mid e (by omega)
  have hp := (putGo_len s l false).1
  rw [List.length_cons, ref15_Asked_loop2, h1, if_pos rfl, h2, Option.bind_some, put_eq l s (by omega), Option.bind_some, h3, asked_loop2 r2 K hl r (pre ++ [s]) _ h4 (by simp; omega)]
  rfl
def askN : Nat → Node → List Txt
 | 0, _ => []
 | d + 1, x => x.nodes.foldl (fun l y => putAll l (askN d y)) (if x.kind = 3 then putGo x.name false [] else [])
theorem foldl_props (f : Node → List Txt) (hf : ∀ y, Up (f y)) : ∀ (r : List Node) (l : List Txt), Up l → (∀ x, x ∈ r.foldl (fun l y => putAll l (f y)) l ↔ x ∈ l ∨ ∃ y ∈ r, x ∈ f y) ∧ Up (r.foldl (fun l y => putAll l (f y)) l)
 | [], l, h => ⟨fun x => by simp, h⟩
 | y :: r, l, h => by
  obtain ⟨h1, h2⟩ := putAll_props (r := f y) h
  obtain ⟨h3, h4⟩ := foldl_props f hf r _ h2
  refine ⟨fun x => ?_, h4⟩
  rw [List.foldl_cons, h3, h1]
  simp only [List.mem_cons, exists_eq_or_imp]
  exact or_assoc
theorem askN_up : ∀ (d : Nat) (x : Node), Up (askN d x)
 | 0, x => by simp [askN, Up]
 | d + 1, x => by
  rw [askN]
  refine (foldl_props _ (askN_up d) _ _ ?_).2
  split
  · exact (putGo_props _ (by simp [Up])).2
  · simp [Up]
theorem askN_mem : ∀ (d : Nat) (x : Node), deepN d x = true → ∀ s, s ∈ askN d x ↔ s ∈ namesN d x
 | 0, x, h, s => by cases h
 | d + 1, x, h, s => by
  rw [askN, (foldl_props _ (askN_up d) _ _ (by split; exact (putGo_props _ (by simp [Up])).2; simp [Up])).1, namesN, List.mem_append, List.mem_flatMap]
  refine or_congr ?_ ⟨?_, ?_⟩
  · split
    · rw [(putGo_props _ (by simp [Up])).1]; simp
    · exact Iff.rfl
  · rintro ⟨y, hy, q⟩; exact ⟨y, hy, (askN_mem d y (deepN_sub h hy) s).1 q⟩
  · rintro ⟨y, hy, q⟩; exact ⟨y, hy, (askN_mem d y (deepN_sub h hy) s).2 q⟩
theorem foldl_len (f : Node → List Txt) (c : Node → Nat) : ∀ (r : List Node) (l : List Txt), (∀ y ∈ r, (f y).length ≤ c y) → (r.foldl (fun l y => putAll l (f y)) l).length ≤ l.length + (r.map c).sum
 | [], l, _ => by simp
 | y :: r, l, h => by
  have h1 := putAll_len (f y) l
  have h2 := h y (List.mem_cons_self ..)
  have h3 := foldl_len f c r (putAll l (f y)) fun z hz => h z (List.mem_cons_of_mem _ hz)
  rw [List.foldl_cons, List.map_cons, List.sum_cons]
  omega
theorem askN_len : ∀ (d : Nat) (x : Node), (askN d x).length ≤ cntT d x
 | 0, x => by simp [askN]
 | d + 1, x => by
  rw [askN, cntT]
  have h1 := foldl_len (askN d) (cntT d) x.nodes (if x.kind = 3 then putGo x.name false [] else []) fun y _ => askN_len d y
  have h2 : (if x.kind = 3 then putGo x.name false [] else []).length ≤ 1 := by
   split
   · exact (putGo_len _ [] false).1
   · simp
  omega
theorem asked_loop (x : Node) (self : Node → Option (List Txt)) (f : Node → List Txt) (c : Node → Nat) (hs : ∀ y ∈ x.nodes, self y = some (f y)) (hc : ∀ y ∈ x.nodes, (f y).length ≤ c y) (hsum : (x.nodes.map c).sum ≤ 1000) (hl : x.nodes.length ≤ 1000) :
 ∀ (r pre : List Node) (l : List Txt), x.nodes = pre ++ r → l.length ≤ 10 + (pre.map c).sum → ref15_Asked_loop1 x self (fun l5 => some l5) (r.length + 1) l (pre.length : Int) = some (r.foldl (fun l y => putAll l (f y)) l)
 | [], pre, l, e, hb => by rw [ref15_Asked_loop1, end_mid e]; rfl
 | y :: r, pre, l, e, hb => by
  obtain ⟨h1, h2, h3, h4, h5⟩ := step_mid e (by omega)
  have hy : y ∈ x.nodes := by rw [e]; simp
  have hcy := hc y hy
  have hcs := mem_sum (f := c) hy
  have hps : (pre.map c).sum ≤ 1000 := by
   rw [e, List.map_append, List.sum_append] at hsum
   omega
  have hpl := putAll_len (f y) l
  have ih := asked_loop x self f c hs hc hsum hl r (pre ++ [y]) (putAll l (f y)) h4 (by rw [List.map_append, List.sum_append]; simp; omega)
  rw [List.length_cons, ref15_Asked_loop1, h1, if_pos rfl, joinK, h2, Option.bind_some, hs y hy, Option.bind_some, fuel0]
  refine (asked_loop2 (f y) _ (by omega) (f y) [] l rfl (by omega)).trans ?_
  rw [h3, ih]
  rfl
theorem asked_eq : ∀ (d n : Nat) (x : Node), d ≤ n → deepN d x = true → cntT d x ≤ 256 → ref15_Asked n x = some (askN d x)
 | 0, n, x, _, h, _ => by cases h
 | d + 1, 0, x, hn, _, _ => by omega
 | d + 1, n + 1, x, hn, h, hc => by
  have hlen := cntT_len (d := d) (x := x)
  have key : ∀ l : List Txt, l.length ≤ 1 → ref15_Asked_loop1 x (ref15_Asked n) (fun l5 => some l5) (x.nodes.length + 1) l 0 = some (x.nodes.foldl (fun l y => putAll l (askN d y)) l) := fun l hl =>
   asked_loop x (ref15_Asked n) (askN d) (cntT d) (fun y hy => asked_eq d n y (by omega) (deepN_sub h hy) (by have := cntT_sub (d := d) hy; omega)) (fun y _ => askN_len d y) (by rw [cntT] at hc; omega) (by omega) x.nodes [] l rfl (by simp; omega)
  rw [ref15_Asked, ref15_Asked_body]
  unfold joinK
  dsimp only
  rw [fuel0, askN]
  by_cases h3 : x.kind = 3
  · rw [if_pos (by simpa using h3), put_eq [] x.name (by simp), Option.bind_some, if_pos h3]
    exact key _ (putGo_len _ [] false).1
  · rw [if_neg (by simpa using h3), if_neg h3]
    exact key [] (by simp)
theorem askN_inp {x : Node} (h : deepN 16 x = true) : askN 16 x = inpN x :=
 up_unique (askN_up 16 x) (setN_props _).2 fun s => by rw [askN_mem 16 x h, inpN, (setN_props _).1]
section
variable (x : Node) (g : GoodN x) (hN : lightB x = true → NamOk x)
include g hN
theorem rInputs_eq : ref15_Inputs x = some (ifOk x [] (inpN x, 0)) := by
 rw [ref15_Inputs, rcheckN_eq x g hN, Option.bind_some]
 refine ok_of x g hN (fun h hc => ?_) _ rfl
 rw [asked_eq 16 600 x (by omega) (right_deep h) hc, Option.bind_some, askN_inp (right_deep h)]
end
theorem eqS_loop (l : List Txt) (hb : l.length ≤ 100000) : ∀ (r pre : List Txt), l = pre ++ r → slices_Equal_stringstring_loop1 l l (some true) (r.length + 1) (pre.length : Int) = some true
 | [], pre, e => by rw [slices_Equal_stringstring_loop1, end_mid e]; rfl
 | y :: r, pre, e => by
  obtain ⟨h1, h2, h3, h4, h5⟩ := step_mid e (by omega)
  rw [List.length_cons, slices_Equal_stringstring_loop1, h1, if_pos rfl, h2, Option.bind_some, Option.bind_some, if_neg (by simp), h3]
  exact eqS_loop l hb r (pre ++ [y]) h4
theorem eqS_refl (l : List Txt) (hb : l.length ≤ 100000) : slices_Equal_stringstring l l = some true := by
 rw [slices_Equal_stringstring, if_neg (by simp), joinK, fuel0]
 exact eqS_loop l hb l [] rfl
def chosF : List Txt → Nat → List Txt
 | [], _ => []
 | a :: l, k => if k % 2 = 1 then a :: chosF l (k / 2) else chosF l (k / 2)
theorem chosF_len : ∀ (l : List Txt) (k : Nat), (chosF l k).length ≤ l.length
 | [], _ => Nat.le_refl _
 | a :: l, k => by
  have := chosF_len l (k / 2)
  rw [chosF]
  split
  · rw [List.length_cons, List.length_cons]; omega
  · rw [List.length_cons]; omega
theorem andI_one (n : Nat) (h : n ≤ 1000000) : andI .i64 (n : Int) 1 = ((n % 2 : Nat) : Int) := by
 unfold andI
 have e : (BitVec.ofInt IntKind.i64.bits (n : Int) &&& BitVec.ofInt IntKind.i64.bits 1).toNat = n % 2 := by
  rw [BitVec.toNat_and, BitVec.toNat_ofInt, BitVec.toNat_ofInt]
  have h1 : ((n : Int) % ((2 ^ IntKind.i64.bits : Nat) : Int)).toNat = n := by
   show ((n : Int) % ((2 ^ 64 : Nat) : Int)).toNat = n
   omega
  have h2 : ((1 : Int) % ((2 ^ IntKind.i64.bits : Nat) : Int)).toNat = 1 := rfl
  rw [h1, h2, Nat.and_one_is_mod]
 rw [e, wrap64 (by omega) (by omega)]
theorem fl2_loop (names : List Txt) (hl : names.length ≤ 6) (k : Nat) (hk : k ≤ 1000) (K : List Txt → Option (List Txt × Int × Int)) : ∀ (r pre acc : List Txt), names = pre ++ r → acc.length ≤ pre.length → program_Faulty_loop2 names (k : Int) K (r.length + 1) (pre.length : Int) acc = K (acc ++ chosF r (k / 2 ^ pre.length))
 | [], pre, acc, e, ha => by rw [program_Faulty_loop2, end_mid e, if_neg (by simp), chosF, List.append_nil]
 | a :: r, pre, acc, e, ha => by
  obtain ⟨h1, h2, h3, h4, h5⟩ := step_mid e (by omega)
  have ih := fun acc => fl2_loop names hl k hk K r (pre ++ [a]) acc h4
  have hd : k / 2 ^ pre.length ≤ k := Nat.div_le_self _ _
  have hq : (k : Int) / 2 ^ Int.toNat ((pre.length : Nat) : Int) = ((k / 2 ^ pre.length : Nat) : Int) := by
   rw [Int.toNat_natCast, Int.natCast_ediv, Int.natCast_pow]
   rfl
  have hg : guardO (decide ((0 : Int) ≤ ((pre.length : Nat) : Int)) && decide (((pre.length : Nat) : Int) ≤ 64)) = some () := by
   rw [decide_eq_true (by omega), decide_eq_true (by omega)]; rfl
  have hn : k / 2 ^ pre.length / 2 = k / 2 ^ (pre ++ [a]).length := by
   rw [Nat.div_div_eq_div_mul, List.length_append, List.length_singleton, Nat.pow_succ]
  rw [List.length_cons, program_Faulty_loop2, h1, if_pos rfl, joinK, h2, Option.bind_some, hg, Option.bind_some, hq, andI_one _ (by omega), h3, chosF, hn]
  by_cases hb : k / 2 ^ pre.length % 2 = 1
  · rw [if_pos (by rw [hb]; rfl), if_pos hb, appO_ok (by simp; omega) (by decide), Option.bind_some]
    dsimp only
    rw [ih _ (by simp; omega)]
    simp
  · rw [if_neg (by rw [beq_iff_eq]; omega), if_neg hb]
    dsimp only
    rw [ih acc (by simp; omega)]
theorem rchosen_loop (names : List Txt) (hl : names.length ≤ 1000) (K : List Txt → Option (List Txt)) : ∀ (r pre acc : List Txt) (k : Nat), names = pre ++ r → acc.length ≤ pre.length → k ≤ 1000000 → ref15_Chosen_loop1 names K (r.length + 1) (k : Int) (pre.length : Int) acc = K (acc ++ chosF r k)
 | [], pre, acc, k, e, ha, hk => by rw [ref15_Chosen_loop1, end_mid e, if_neg (by simp), chosF, List.append_nil]
 | a :: r, pre, acc, k, e, ha, hk => by
  obtain ⟨h1, h2, h3, h4, h5⟩ := step_mid e (by omega)
  have ih := fun acc => rchosen_loop names hl K r (pre ++ [a]) acc (k / 2) h4
  have ht : Int.tmod (k : Int) 2 = ((k % 2 : Nat) : Int) := by rw [Int.tmod_eq_emod_of_nonneg (by omega)]; omega
  have hd : Int.tdiv (k : Int) 2 = ((k / 2 : Nat) : Int) := by rw [Int.tdiv_eq_ediv_of_nonneg (by omega)]; omega
  rw [List.length_cons, ref15_Chosen_loop1, h1, if_pos rfl, joinK, ht, hd, h2, h3, wrap64 (by omega) (by omega), chosF]
  by_cases hb : k % 2 = 1
  · rw [if_pos (by rw [hb]; rfl), if_pos hb, Option.bind_some, appO_ok (by simp; omega) (by decide), Option.bind_some]
    dsimp only
    rw [ih _ (by simp; omega) (by omega)]
    simp
  · rw [if_neg (by rw [beq_iff_eq]; omega), if_neg hb]
    dsimp only
    rw [ih acc (by simp; omega) (by omega)]
theorem rchosen_eq (names : List Txt) (hl : names.length ≤ 1000) (k : Nat) (hk : k ≤ 1000000) : ref15_Chosen names (k : Int) = some (chosF names k) := by
 rw [ref15_Chosen, joinK, fuel0]
 exact rchosen_loop names hl _ names [] [] k rfl (by simp) hk
def faultF (x : Node) (names : List Txt) : Nat → Nat → List Txt × Int × Int
 | 0, _ => ([], 0, 0)
 | m + 1, k => if (seqN (chosF names k) x).2 ≠ 0 then (chosF names k, (seqN (chosF names k) x).2, 0) else faultF x names m (k + 1)
theorem pow_six {n : Nat} (h : n ≤ 6) : 2 ^ n ≤ 64 := Nat.pow_le_pow_right (by decide) h
theorem pow_wrap {n : Nat} (h : n ≤ 6) : IntKind.wrap .i64 ((1 : Int) * 2 ^ Int.toNat ((n : Nat) : Int)) = ((2 ^ n : Nat) : Int) := by
 have := pow_six h
 have e : (1 : Int) * 2 ^ Int.toNat ((n : Nat) : Int) = ((2 ^ n : Nat) : Int) := by
  rw [Int.toNat_natCast, Int.one_mul, Int.natCast_pow]
  rfl
 rw [e]
 generalize (2 ^ n : Nat) = p at this ⊢
 exact wrap64 (by omega) (by omega)
theorem lfl_loop (x : Node) (hx : Right 16 x) (names : List Txt) (hl : names.length ≤ 6) : ∀ (m k : Nat), k + m = 2 ^ names.length → program_Faulty_loop1 x names (some ([], 0, 0)) (m + 1) (k : Int) = some (faultF x names m k)
 | 0, k, h => by
  rw [program_Faulty_loop1, pow_wrap hl, if_neg (by rw [decide_eq_true_eq]; omega)]
  rfl
 | m + 1, k, h => by
  have hp := pow_six hl
  have ih := lfl_loop x hx names hl m (k + 1) (by omega)
  have hc := chosF_len names k
  rw [program_Faulty_loop1, pow_wrap hl, if_pos (by rw [decide_eq_true_eq]; omega), joinK, joinK, fuel0]
  refine (fl2_loop names hl k (by omega) _ names [] [] rfl (by simp)).trans ?_
  rw [List.nil_append, List.length_nil, Nat.pow_zero, Nat.div_one, ldoneN_eq _ (by omega) x hx, Option.bind_some, wrap64 (by omega) (by omega), show (k : Int) + 1 = ((k + 1 : Nat) : Int) by omega, ih, faultF]
  by_cases h0 : (seqN (chosF names k) x).2 = 0
  · rw [if_neg (by simpa using h0), if_neg (by simpa using h0)]
  · rw [if_pos (by simpa using h0), if_pos h0]
theorem rfl_loop (x : Node) (g : GoodN x) (hN : lightB x = true → NamOk x) (hc0 : checkN x = 0) (r1 : List Txt × Int) (hl : r1.1.length ≤ 6) : ∀ (m k : Nat), k + m = 2 ^ r1.1.length → ref15_Faulty_loop1 x r1 (some ([], 0, 0)) (m + 1) (k : Int) = some (faultF x r1.1 m k)
 | 0, k, h => by
  have hg : guardO (decide ((0 : Int) ≤ ((r1.1.length : Nat) : Int)) && decide (((r1.1.length : Nat) : Int) ≤ 64)) = some () := by
   rw [decide_eq_true (by omega), decide_eq_true (by omega)]; rfl
  rw [ref15_Faulty_loop1, hg, Option.bind_some, pow_wrap hl, if_neg (by rw [decide_eq_true_eq]; omega)]
  rfl
 | m + 1, k, h => by
  have hp := pow_six hl
  have ih := rfl_loop x g hN hc0 r1 hl m (k + 1) (by omega)
  have hc := chosF_len r1.1 k
  have hg : guardO (decide ((0 : Int) ≤ ((r1.1.length : Nat) : Int)) && decide (((r1.1.length : Nat) : Int) ≤ 64)) = some () := by
   rw [decide_eq_true (by omega), decide_eq_true (by omega)]; rfl
  have hi : ifOk x ⟨0, []⟩ (seqN (chosF r1.1 k) x) = seqN (chosF r1.1 k) x := if_neg (by simpa using hc0)
  rw [ref15_Faulty_loop1, hg, Option.bind_some, pow_wrap hl, if_pos (by rw [decide_eq_true_eq]; omega), joinK, rchosen_eq r1.1 (by omega) k (by omega), Option.bind_some, rSequence_eq x g hN _ (by omega), hi, Option.bind_some, wrap64 (by omega) (by omega), show (k : Int) + 1 = ((k + 1 : Nat) : Int) by omega, ih, faultF]
  dsimp only
  by_cases h0 : (seqN (chosF r1.1 k) x).2 = 0
  · rw [if_neg (by simpa using h0), if_neg (by simpa using h0)]
  · rw [if_pos (by simpa using h0), if_pos h0, Option.bind_some]
def faultR (x : Node) : List Txt × Int × Int := if checkN x ≠ 0 then ([], 0, checkN x) else if (inpN x).length > 6 then ([], 0, 12) else faultF x (inpN x) (2 ^ (inpN x).length) 0
section
variable (x : Node) (g : GoodN x) (hN : lightB x = true → NamOk x)
include g hN
theorem lFaulty_eq : program_Faulty x = some (faultR x) := by
 rw [program_Faulty, lcheckN_eq x g hN, Option.bind_some, faultR]
 by_cases h : checkN x = 0
 · have hr := check_right.1 h
   rw [if_neg (by simpa using h), if_neg (by simpa using h), linputs_eq x g hr.2, Option.bind_some]
   by_cases hl : (inpN x).length > 6
   · rw [if_pos (by rw [decide_eq_true_eq]; omega), if_pos hl]
   · have hg : guardO (decide ((0 : Int) ≤ (((inpN x).length : Nat) : Int)) && decide ((((inpN x).length : Nat) : Int) ≤ 64)) = some () := by
      rw [decide_eq_true (by omega), decide_eq_true (by omega)]; rfl
     rw [if_neg (by rw [decide_eq_true_eq]; omega), if_neg hl, joinK, hg, Option.bind_some, pow_wrap (by omega)]
     have := lfl_loop x hr.1 (inpN x) (by omega) (2 ^ (inpN x).length) 0 (Nat.zero_add _)
     rw [Int.sub_zero, Int.toNat_natCast]
     exact this
 · rw [if_pos (by simpa using h), if_pos h]
theorem rFaulty_eq : ref15_Faulty x = some (faultR x) := by
 rw [ref15_Faulty, rInputs_eq x g hN, Option.bind_some]
 by_cases h : checkN x = 0
 · have hr := check_right.1 h
   have hi : ifOk x [] (inpN x, 0) = (inpN x, 0) := if_neg (by simpa using h)
   have hf : faultR x = if (inpN x).length > 6 then ([], 0, 12) else faultF x (inpN x) (2 ^ (inpN x).length) 0 := by rw [faultR, if_neg (by simpa using h)]
   rw [hi, hf]
   show (if decide (((inpN x).length : Int) > 6) = true then some ([], 0, 12) else joinK (some ([], 0, 0)) fun k1 => ref15_Faulty_loop1 x (inpN x, 0) k1 (Int.toNat ((IntKind.wrap .i64 ((1 : Int) * 2 ^ Int.toNat ((inpN x).length : Int))) - 0) + 1) 0) = _
   by_cases hl : (inpN x).length > 6
   · rw [if_pos (by rw [decide_eq_true_eq]; omega), if_pos hl]
   · rw [if_neg (by rw [decide_eq_true_eq]; omega), if_neg hl, joinK, pow_wrap (by omega)]
     have := rfl_loop x g hN h (inpN x, 0) (by show (inpN x).length ≤ 6; omega) (2 ^ (inpN x).length) 0 (Nat.zero_add _)
     rw [Int.sub_zero, Int.toNat_natCast]
     exact this
 · have hi : ifOk x [] (inpN x, 0) = ([], checkN x) := if_pos h
   rw [hi, if_pos (by simpa using h), faultR, if_pos h]
end
theorem faultF_bad (x : Node) (names : List Txt) : ∀ (m k : Nat), (faultF x names m k).2.2 = 0 ∧ (faultF x names m k).1.length ≤ names.length ∧ ((faultF x names m k).2.1 ≠ 0 → (seqN (faultF x names m k).1 x).2 = (faultF x names m k).2.1) ∧ ((faultF x names m k).2.1 = 0 → (faultF x names m k).1 = [] ∧ ∀ j, k ≤ j → j < k + m → (seqN (chosF names j) x).2 = 0)
 | 0, k => ⟨rfl, by simp [faultF], fun h => absurd rfl h, fun _ => ⟨rfl, fun j h1 h2 => by omega⟩⟩
 | m + 1, k => by
  rw [faultF]
  by_cases h0 : (seqN (chosF names k) x).2 = 0
  · rw [if_neg (by simpa using h0)]
    obtain ⟨a, b, c, d⟩ := faultF_bad x names m (k + 1)
    refine ⟨a, b, c, fun h => ⟨(d h).1, fun j h1 h2 => ?_⟩⟩
    by_cases hj : j = k
    · rw [hj]; exact h0
    · exact (d h).2 j (by omega) (by omega)
  · rw [if_pos h0]
    exact ⟨rfl, chosF_len names k, fun _ => rfl, fun h => absurd h h0⟩
theorem right_up {d : Nat} {x : Node} (h : Right d x) : Right (d + 1) x := by
 induction h with
 | step d s h => exact .step _ s h
 | list d l h hl k ih => exact .list _ l h hl ih
 | rep d c y h0 h1 h ih => exact .rep _ c y h0 h1 ih
 | cho d n a b h ha hb iha ihb => exact .cho _ n a b h iha ihb
theorem cnt_up {d : Nat} {x : Node} (h : Right d x) : cntT (d + 1) x = cntT d x := by
 have hd := right_deep h
 cases d with
 | zero => cases h
 | succ k => rw [cntT_deep (d := k) (e := k + 1 + 1) (by omega) hd, cntT_deep (d := k) (e := k + 1) (by omega) hd]
theorem steps_up (on : List Txt) {d : Nat} {x : Node} (h : Right d x) : stepsN on (d + 1) x = stepsN on d x := by
 induction h with
 | step d s h => rw [stepsN_step, stepsN_step]
 | list d l h hl k ih =>
  rw [stepsN_list, stepsN_list]
  have key : ∀ q : List Node, (∀ y ∈ q, y ∈ l) → q.flatMap (stepsN on (d + 1)) = q.flatMap (stepsN on d) := by
   intro q
   induction q with
   | nil => intro _; rfl
   | cons y q ihq => intro hq; rw [List.flatMap_cons, List.flatMap_cons, ihq fun z hz => hq z (List.mem_cons_of_mem _ hz), ih y (hq y (List.mem_cons_self ..))]
  exact key l fun y hy => hy
 | rep d c y h0 h1 h ih => rw [stepsN_rep, stepsN_rep, ih]
 | cho d n a b h ha hb iha ihb => rw [stepsN_cho, stepsN_cho, iha, ihb]
theorem flat_congr {α β : Type} {f g : α → List β} : ∀ {l : List α}, (∀ y ∈ l, f y = g y) → l.flatMap f = l.flatMap g
 | [], _ => rfl
 | y :: l, h => by rw [List.flatMap_cons, List.flatMap_cons, h y (List.mem_cons_self ..), flat_congr fun z hz => h z (List.mem_cons_of_mem _ hz)]
theorem names_up {d : Nat} {x : Node} (h : Right d x) : namesN (d + 1) x = namesN d x := by
 induction h with
 | step d s h => simp [namesN]
 | list d l h hl k ih =>
  rw [namesN, namesN]
  show _ ++ l.flatMap (namesN (d + 1)) = _ ++ l.flatMap (namesN d)
  rw [flat_congr ih]
 | rep d c y h0 h1 h ih => rw [namesN, namesN]; simp [ih]
 | cho d n a b h ha hb iha ihb => rw [namesN, namesN]; simp [iha, ihb]
theorem mot_up {d : Nat} {x : Node} (h : Right d x) : mot (d + 1) x = mot d x := by
 induction h with
 | step d s h => rw [mot_step, mot_step]
 | list d l h hl k ih => rw [mot_list, mot_list, List.map_congr_left ih]
 | rep d c y h0 h1 h ih => rw [mot_rep, mot_rep, ih]
 | cho d n a b h ha hb iha ihb => rw [mot_cho, mot_cho, iha, ihb]
def partsN (z : Node) : List Node := if z.kind = 1 then z.nodes else [z]
def plainN : Nat → Node → Node
 | 0, x => x
 | d + 1, x => if x.kind = 1 then (if (x.nodes.flatMap fun y => partsN (plainN d y)).length = 1 then (x.nodes.flatMap fun y => partsN (plainN d y)).headD x else ⟨1, ⟨[], 0⟩, 0, [], x.nodes.flatMap fun y => partsN (plainN d y)⟩)
  else if x.kind = 2 then (if x.count = 1 then plainN d (x.nodes.headD x) else ⟨2, ⟨[], 0⟩, x.count, [], [plainN d (x.nodes.headD x)]⟩)
  else ⟨x.kind, x.step, x.count, x.name, x.nodes.map (plainN d)⟩
def nf : Nat → Node → Prop
 | 0, _ => True
 | d + 1, x => (x.kind = 1 → x.nodes.length ≠ 1 ∧ ∀ y ∈ x.nodes, y.kind ≠ 1) ∧ (x.kind = 2 → x.count ≠ 1) ∧ ∀ y ∈ x.nodes, nf d y
section
variable {d : Nat} {s : Step} {l : List Node} {c : Int} {y a b : Node} {n : List UInt8}
theorem plainN_step : plainN (d + 1) ⟨0, s, 0, [], []⟩ = ⟨0, s, 0, [], []⟩ := by simp [plainN]
theorem plainN_list : plainN (d + 1) ⟨1, ⟨[], 0⟩, 0, [], l⟩ = if (l.flatMap fun y => partsN (plainN d y)).length = 1 then (l.flatMap fun y => partsN (plainN d y)).headD ⟨1, ⟨[], 0⟩, 0, [], l⟩ else ⟨1, ⟨[], 0⟩, 0, [], l.flatMap fun y => partsN (plainN d y)⟩ := by simp [plainN]
theorem plainN_rep : plainN (d + 1) ⟨2, ⟨[], 0⟩, c, [], [y]⟩ = if c = 1 then plainN d y else ⟨2, ⟨[], 0⟩, c, [], [plainN d y]⟩ := by simp [plainN]
theorem plainN_cho : plainN (d + 1) ⟨3, ⟨[], 0⟩, 0, n, [a, b]⟩ = ⟨3, ⟨[], 0⟩, 0, n, [plainN d a, plainN d b]⟩ := by simp [plainN]
end
theorem nf_mk {d : Nat} {x : Node} (h : (x.kind = 1 → x.nodes.length ≠ 1 ∧ ∀ y ∈ x.nodes, y.kind ≠ 1) ∧ (x.kind = 2 → x.count ≠ 1) ∧ ∀ y ∈ x.nodes, nf d y) : nf (d + 1) x := h
theorem nf_step (d : Nat) (s : Step) : nf (d + 1) ⟨0, s, 0, [], []⟩ := nf_mk ⟨fun q => by simp at q, fun q => by simp at q, fun y hy => by simp at hy⟩
theorem nf_up {d : Nat} {x : Node} (h : Right d x) : nf d x → nf (d + 1) x := by
 induction h with
 | step d s h => intro _; exact nf_step _ s
 | list d l h hl k ih => intro q; exact ⟨q.1, q.2.1, fun y hy => ih y hy (q.2.2 y hy)⟩
 | rep d c y h0 h1 h ih => intro q; exact ⟨q.1, q.2.1, fun z hz => by rw [List.mem_singleton.1 hz]; exact ih (q.2.2 y (List.mem_cons_self ..))⟩
 | cho d n a b h ha hb iha ihb => intro q; exact ⟨q.1, q.2.1, fun z hz => by
  rcases List.mem_cons.1 hz with rfl | hz
  · exact iha (q.2.2 z (List.mem_cons_self ..))
  · rw [List.mem_singleton.1 hz]; exact ihb (q.2.2 b (by simp))⟩
structure PartsOk (d : Nat) (z : Node) (L : List Node) : Prop where
 right : ∀ w ∈ L, Right d w
 cnt : (L.map (cntT d)).sum ≤ cntT d z
 steps : ∀ on, L.flatMap (stepsN on d) = stepsN on d z
 names : ∀ s, (∃ w ∈ L, s ∈ namesN d w) ↔ s ∈ namesN d z
 nfs : nf d z → ∀ w ∈ L, nf d w ∧ w.kind ≠ 1
 ne : L ≠ []
 mots : L.map (mot d) = if (mot d z).isList = true then (mot d z).prts else [mot d z]
theorem parts_ok {d : Nat} {z : Node} (h : Right d z) : PartsOk d z (partsN z) := by
 have one : z.kind ≠ 1 → (mot d z).isList = false → PartsOk d z [z] := fun hk hm => ⟨fun w hw => by rw [List.mem_singleton.1 hw]; exact h, by simp, fun on => by simp, fun s => by simp, fun q w hw => by rw [List.mem_singleton.1 hw]; exact ⟨q, hk⟩, by simp, by rw [hm]; simp⟩
 cases h with
 | step d s h => exact one (by simp) (by rw [mot_step]; rfl)
 | list d l h hl k =>
  refine ⟨fun w hw => right_up (k w hw), ?_, fun on => ?_, fun s => ?_, fun q w hw => ?_, h, ?_⟩
  · show (l.map (cntT (d + 1))).sum ≤ cntT (d + 1) ⟨1, ⟨[], 0⟩, 0, [], l⟩
    have e : (l.map (cntT (d + 1))).sum = (l.map (cntT d)).sum := by rw [List.map_congr_left fun y hy => cnt_up (k y hy)]
    rw [e, cntT]
    show _ ≤ 1 + (l.map (cntT d)).sum
    omega
  · show l.flatMap (stepsN on (d + 1)) = _
    rw [stepsN_list, flat_congr fun y hy => steps_up on (k y hy)]
  · rw [namesN]
    show (∃ w ∈ l, s ∈ namesN (d + 1) w) ↔ s ∈ _ ++ l.flatMap (namesN d)
    rw [List.mem_append, List.mem_flatMap]
    constructor
    · rintro ⟨w, hw, q⟩; exact .inr ⟨w, hw, by rw [← names_up (k w hw)]; exact q⟩
    · rintro (q | ⟨w, hw, q⟩)
      · simp at q
      · exact ⟨w, hw, by rw [names_up (k w hw)]; exact q⟩
  · exact ⟨nf_up (k w hw) (q.2.2 w hw), (q.1 rfl).2 w hw⟩
  · rw [mot_list, if_pos (by rfl)]
    show l.map (mot (d + 1)) = l.map (mot d)
    rw [List.map_congr_left fun y hy => mot_up (k y hy)]
 | rep d c y h0 h1 h => exact one (by simp) (by rw [mot_rep]; rfl)
 | cho d n a b h ha hb => exact one (by simp) (by rw [mot_cho]; rfl)
structure PlainOk (d : Nat) (x z : Node) : Prop where
 right : Right d z
 cnt : cntT d z ≤ cntT d x
 nfs : nf d z
 steps : ∀ on, stepsN on d z = stepsN on d x
 names : ∀ s, s ∈ namesN d z ↔ s ∈ namesN d x
theorem sum_le2 {α : Type} {f g : α → Nat} {l : List α} (h : ∀ y ∈ l, f y ≤ g y) : (l.map f).sum ≤ (l.map g).sum := by
 have := sum_mul (m := 1) (f := f) (g := g) (l := l) fun y hy => by have := h y hy; omega
 omega
theorem flat_cnt {f : Node → List Node} {c : Node → Nat} : ∀ l : List Node, ((l.flatMap f).map c).sum = (l.map fun y => ((f y).map c).sum).sum
 | [] => rfl
 | y :: l => by rw [List.flatMap_cons, List.map_append, List.sum_append, flat_cnt l, List.map_cons, List.sum_cons]
theorem plain_ok {d : Nat} {x : Node} (h : Right d x) : cntT d x ≤ 256 → PlainOk d x (plainN d x) := by
 induction h with
 | step d s h =>
  intro _
  rw [plainN_step]
  exact ⟨.step d s h, Nat.le_refl _, nf_step d s, fun _ => rfl, fun _ => Iff.rfl⟩
 | list d l h hl k ih =>
  intro hc
  have hcy : ∀ y ∈ l, cntT d y ≤ 256 := fun y hy => by have := cntT_sub (d := d) (x := ⟨1, ⟨[], 0⟩, 0, [], l⟩) hy; omega
  have ok := fun y hy => ih y hy (hcy y hy)
  have po := fun y hy => parts_ok (ok y hy).right
  rw [plainN_list]
  generalize hL : (l.flatMap fun y => partsN (plainN d y)) = L
  have hmem : ∀ w, w ∈ L ↔ ∃ y ∈ l, w ∈ partsN (plainN d y) := fun w => by rw [← hL, List.mem_flatMap]
  have hR : ∀ w ∈ L, Right d w := fun w hw => by obtain ⟨y, hy, q⟩ := (hmem w).1 hw; exact (po y hy).right w q
  have hcnt : (L.map (cntT d)).sum ≤ (l.map (cntT d)).sum := by
   rw [← hL, flat_cnt]
   exact sum_le2 fun y hy => Nat.le_trans (po y hy).cnt (ok y hy).cnt
  have hx : cntT (d + 1) ⟨1, ⟨[], 0⟩, 0, [], l⟩ = 1 + (l.map (cntT d)).sum := by rw [cntT]
  have hlen : L.length ≤ (L.map (cntT d)).sum := len_sum fun y _ => cntT_pos d y
  have hst : ∀ on, L.flatMap (stepsN on d) = l.flatMap (stepsN on d) := fun on => by
   rw [← hL, List.flatMap_assoc]
   exact flat_congr fun y hy => by rw [(po y hy).steps on, (ok y hy).steps on]
  have hnm : ∀ s, (∃ w ∈ L, s ∈ namesN d w) ↔ ∃ y ∈ l, s ∈ namesN d y := fun s => by
   constructor
   · rintro ⟨w, hw, q⟩
     obtain ⟨y, hy, hw⟩ := (hmem w).1 hw
     exact ⟨y, hy, ((ok y hy).names s).1 (((po y hy).names s).1 ⟨w, hw, q⟩)⟩
   · rintro ⟨y, hy, q⟩
     obtain ⟨w, hw, q⟩ := ((po y hy).names s).2 (((ok y hy).names s).2 q)
     exact ⟨w, (hmem w).2 ⟨y, hy, hw⟩, q⟩
  have hnf : ∀ w ∈ L, nf d w ∧ w.kind ≠ 1 := fun w hw => by obtain ⟨y, hy, q⟩ := (hmem w).1 hw; exact (po y hy).nfs (ok y hy).nfs w q
  have hne : L ≠ [] := by
   obtain ⟨y, hy⟩ := List.exists_mem_of_ne_nil l h
   obtain ⟨w, hw⟩ := List.exists_mem_of_ne_nil _ (po y hy).ne
   exact List.ne_nil_of_mem ((hmem w).2 ⟨y, hy, hw⟩)
  have hxn : ∀ s, s ∈ namesN (d + 1) ⟨1, ⟨[], 0⟩, 0, [], l⟩ ↔ ∃ y ∈ l, s ∈ namesN d y := fun s => by rw [namesN]; simp
  by_cases h1 : L.length = 1
  · rw [if_pos h1]
    match L, h1 with
    | [w], _ =>
     have hw := hR w (List.mem_cons_self ..)
     show PlainOk (d + 1) _ w
     refine ⟨right_up hw, ?_, nf_up hw (hnf w (List.mem_cons_self ..)).1, fun on => ?_, fun s => ?_⟩
     · rw [cnt_up hw, hx]
       simp at hcnt
       omega
     · rw [steps_up on hw, stepsN_list, ← hst on]
       simp
     · rw [names_up hw, hxn, ← hnm]
       simp
  · rw [if_neg h1]
    refine ⟨.list d L hne (by omega) hR, ?_, nf_mk ⟨fun _ => ⟨h1, fun w hw => (hnf w hw).2⟩, fun q => by simp at q, fun w hw => (hnf w hw).1⟩, fun on => ?_, fun s => ?_⟩
    · rw [cntT, cntT]
      show 1 + (L.map (cntT d)).sum ≤ 1 + (l.map (cntT d)).sum
      omega
    · rw [stepsN_list, stepsN_list, hst]
    · rw [hxn, ← hnm, namesN]
      simp
 | rep d c y h0 h1 h ih =>
  intro hc
  have hcy : cntT d y ≤ 256 := by have := cntT_sub (d := d) (x := ⟨2, ⟨[], 0⟩, c, [], [y]⟩) (y := y) (by simp); omega
  have ok := ih hcy
  have hx : cntT (d + 1) ⟨2, ⟨[], 0⟩, c, [], [y]⟩ = 1 + cntT d y := by rw [cntT]; simp
  rw [plainN_rep]
  by_cases hc1 : c = 1
  · subst hc1
    rw [if_pos rfl]
    refine ⟨right_up ok.right, by rw [cnt_up ok.right, hx]; have := ok.cnt; omega, nf_up ok.right ok.nfs, fun on => ?_, fun s => ?_⟩
    · rw [steps_up on ok.right, stepsN_rep, ok.steps on]
      simp
    · rw [names_up ok.right, ok.names s, namesN]
      simp
  · rw [if_neg hc1]
    refine ⟨.rep d c _ h0 h1 ok.right, by rw [hx, cntT]; simp; exact ok.cnt, nf_mk ⟨fun q => by simp at q, fun _ => hc1, fun w hw => by rw [List.mem_singleton.1 hw]; exact ok.nfs⟩, fun on => ?_, fun s => ?_⟩
    · rw [stepsN_rep, stepsN_rep, ok.steps on]
    · rw [namesN, namesN]
      simp [ok.names s]
 | cho d n a b h ha hb iha ihb =>
  intro hc
  have hca : cntT d a ≤ 256 := by have := cntT_sub (d := d) (x := ⟨3, ⟨[], 0⟩, 0, n, [a, b]⟩) (y := a) (by simp); omega
  have hcb : cntT d b ≤ 256 := by have := cntT_sub (d := d) (x := ⟨3, ⟨[], 0⟩, 0, n, [a, b]⟩) (y := b) (by simp); omega
  have oka := iha hca
  have okb := ihb hcb
  rw [plainN_cho]
  refine ⟨.cho d n _ _ h oka.right okb.right, ?_, nf_mk ⟨fun q => by simp at q, fun q => by simp at q, fun w hw => ?_⟩, fun on => ?_, fun s => ?_⟩
  · rw [cntT, cntT]
    have := oka.cnt
    have := okb.cnt
    simp
    omega
  · rcases List.mem_cons.1 hw with rfl | hw
    · exact oka.nfs
    · rw [List.mem_singleton.1 hw]; exact okb.nfs
  · rw [stepsN_cho, stepsN_cho, oka.steps on, okb.steps on]
  · rw [namesN, namesN]
    simp [oka.names s, okb.names s]
def prtsOf (m : Motion) : List Motion := if m.isList = true then m.prts else [m]
theorem normal_loop (m : Motion) (hl : m.prts.length ≤ 1000) (self : Motion → Option Motion) (f : Motion → Motion) (hs : ∀ y ∈ m.prts, self y = some (f y)) (hp : ∀ y ∈ m.prts, (prtsOf (f y)).length ≤ 1000) (K : List Motion → Option Motion) :
 ∀ (r pre acc : List Motion), m.prts = pre ++ r → acc.length ≤ pre.length * 1000 → program_normal_loop1 m self K (r.length + 1) (pre.length : Int) acc = K (acc ++ r.flatMap fun y => prtsOf (f y))
 | [], pre, acc, e, ha => by rw [program_normal_loop1, end_mid e, if_neg (by simp), List.flatMap_nil, List.append_nil]
 | y :: r, pre, acc, e, ha => by
  obtain ⟨h1, h2, h3, h4, h5⟩ := step_mid e (by omega)
  have hy : y ∈ m.prts := by rw [e]; simp
  have hpy := hp y hy
  have ih := fun acc => normal_loop m hl self f hs hp K r (pre ++ [y]) acc h4
  have hal : acc.length ≤ 1000000 := by
   have : pre.length * 1000 ≤ 1000 * 1000 := Nat.mul_le_mul_right _ (by omega)
   omega
  rw [List.length_cons, program_normal_loop1, h1, if_pos rfl, joinK, h2, Option.bind_some, hs y hy, Option.bind_some, h3, List.flatMap_cons, ← List.append_assoc]
  unfold prtsOf at hpy ih ⊢
  dsimp only at hpy ih ⊢
  by_cases hi : (f y).isList = true
  · rw [if_pos hi] at hpy
    rw [if_pos hi, if_pos hi, appO_ok (by omega) (by decide), Option.bind_some]
    exact ih _ (by rw [List.length_append, List.length_append, List.length_singleton]; omega)
  · rw [if_neg hi, if_neg hi, appO_ok (by simp; omega) (by decide), Option.bind_some]
    exact ih _ (by rw [List.length_append, List.length_append, List.length_singleton, List.length_singleton]; omega)
theorem partsN_len {d : Nat} {z : Node} (h : Right d z) (hc : cntT d z ≤ 256) : (partsN z).length ≤ 256 := by
 have po := parts_ok h
 have := len_sum (f := cntT d) (l := partsN z) fun y _ => cntT_pos d y
 have := po.cnt
 omega
theorem normal_eq : ∀ (d n : Nat) (x : Node), d ≤ n → Right d x → cntT d x ≤ 256 → program_normal n (mot d x) = some (mot d (plainN d x)) := by
 intro d n x hn h
 induction h generalizing n with
 | step d s h =>
  intro _
  obtain ⟨n, rfl⟩ : ∃ k, n = k + 1 := ⟨n - 1, by omega⟩
  rw [plainN_step, mot_step]
  rfl
 | list d l h hl k ih =>
  intro hc
  obtain ⟨n, rfl⟩ : ∃ k, n = k + 1 := ⟨n - 1, by omega⟩
  have hcy : ∀ y ∈ l, cntT d y ≤ 256 := fun y hy => by have := cntT_sub (d := d) (x := ⟨1, ⟨[], 0⟩, 0, [], l⟩) hy; omega
  have ok := fun y hy => plain_ok (k y hy) (hcy y hy)
  have po := fun y hy => parts_ok (ok y hy).right
  have pl : ∀ y ∈ l, (partsN (plainN d y)).length ≤ 256 := fun y hy => partsN_len (ok y hy).right (Nat.le_trans (ok y hy).cnt (hcy y hy))
  have hmo : ∀ y ∈ l, prtsOf (mot d (plainN d y)) = (partsN (plainN d y)).map (mot d) := fun y hy => (po y hy).mots.symm
  have hf : ∀ y ∈ l, (program_normal n (mot d y)).getD (.list []) = mot d (plainN d y) := fun y hy => by
   rw [ih y hy n (by omega) (hcy y hy)]
   rfl
  have hfl : ((l.map (mot d)).flatMap fun m => prtsOf ((program_normal n m).getD (.list []))) = (l.flatMap fun y => partsN (plainN d y)).map (mot d) := by
   rw [List.flatMap_map, List.map_flatMap]
   exact flat_congr fun y hy => by rw [hf y hy, hmo y hy]
  have hloop := normal_loop (.list (l.map (mot d))) (by show (l.map (mot d)).length ≤ 1000; rw [List.length_map]; omega) (program_normal n) (fun m => (program_normal n m).getD (.list [])) (fun m hm => by
   obtain ⟨y, hy, rfl⟩ := List.mem_map.1 (show m ∈ l.map (mot d) from hm)
   show program_normal n (mot d y) = some ((program_normal n (mot d y)).getD (.list []))
   rw [ih y hy n (by omega) (hcy y hy)]
   rfl) (fun m hm => by
   obtain ⟨y, hy, rfl⟩ := List.mem_map.1 (show m ∈ l.map (mot d) from hm)
   have := pl y hy
   show (prtsOf ((program_normal n (mot d y)).getD (.list []))).length ≤ 1000
   rw [hf y hy, hmo y hy, List.length_map]
   omega) (fun l5 => if ((l5.length : Int) == 1) = true then (at? l5 0).bind fun x2 => some x2 else some (Motion.list l5)) (l.map (mot d)) [] [] rfl (by simp)
  rw [hfl, List.nil_append] at hloop
  rw [mot_list, program_normal, program_normal_body, joinK, if_pos (by rfl), joinK, fuel0]
  refine hloop.trans ?_
  rw [plainN_list]
  have hR : ∀ w ∈ (l.flatMap fun y => partsN (plainN d y)), Right d w := fun w hw => by obtain ⟨y, hy, q⟩ := List.mem_flatMap.1 hw; exact (po y hy).right w q
  generalize (l.flatMap fun y => partsN (plainN d y)) = L at hR
  by_cases h1 : L.length = 1
  · match L, h1 with
    | [w], _ =>
     rw [if_pos (by rfl), if_pos (by rfl)]
     show some (mot d w) = some (mot (d + 1) w)
     rw [mot_up (hR w (List.mem_cons_self ..))]
  · rw [if_neg (by rw [List.length_map, beq_iff_eq]; omega), if_neg h1, mot_list]
 | rep d c y h0 h1 h ih =>
  intro hc
  obtain ⟨n, rfl⟩ : ∃ k, n = k + 1 := ⟨n - 1, by omega⟩
  have hcy : cntT d y ≤ 256 := by have := cntT_sub (d := d) (x := ⟨2, ⟨[], 0⟩, c, [], [y]⟩) (y := y) (by simp); omega
  rw [mot_rep, program_normal, program_normal_body, joinK, if_neg (by simp [Motion.isList]), if_pos (by rfl)]
  show (program_normal n (mot d y)).bind (fun r2 => if (c == 1) = true then some r2 else some (Motion.repeat_ c r2)) = _
  rw [ih n (by omega) hcy, Option.bind_some, plainN_rep]
  by_cases h1 : c = 1
  · rw [if_pos (by simpa using h1), if_pos h1, mot_up (plain_ok h hcy).right]
  · rw [if_neg (by simpa using h1), if_neg h1, mot_rep]
 | cho d nm a b h ha hb iha ihb =>
  intro hc
  obtain ⟨n, rfl⟩ : ∃ k, n = k + 1 := ⟨n - 1, by omega⟩
  have hsa : cntT d a ≤ 256 := by have := cntT_sub (d := d) (x := ⟨3, ⟨[], 0⟩, 0, nm, [a, b]⟩) (y := a) (by simp); omega
  have hsb : cntT d b ≤ 256 := by have := cntT_sub (d := d) (x := ⟨3, ⟨[], 0⟩, 0, nm, [a, b]⟩) (y := b) (by simp); omega
  rw [mot_cho, program_normal, program_normal_body, joinK, if_neg (by simp [Motion.isList]), if_neg (by simp [Motion.isRepeat]), if_pos (by rfl)]
  show (program_normal n (mot d a)).bind (fun r3 => (program_normal n (mot d b)).bind fun r4 => some (Motion.choice nm r3 r4)) = _
  rw [iha n (by omega) hsa, Option.bind_some, ihb n (by omega) hsb, Option.bind_some, plainN_cho, mot_cho]
theorem node_loop (m : Motion) (hl : m.prts.length ≤ 1000) (self : Motion → Option Node) (f : Motion → Node) (hs : ∀ y ∈ m.prts, self y = some (f y)) (K : List Node → Option Node) :
 ∀ (r pre : List Motion), m.prts = pre ++ r → program_node_loop1 m self K (r.length + 1) (pre.length : Int) (pre.map f) = K (m.prts.map f)
 | [], pre, e => by rw [program_node_loop1, end_mid e, if_neg (by simp), e, List.append_nil]
 | y :: r, pre, e => by
  obtain ⟨h1, h2, h3, h4, h5⟩ := step_mid e (by omega)
  have ih := node_loop m hl self f hs K r (pre ++ [y]) h4
  rw [List.length_cons, program_node_loop1, h1, if_pos rfl, h2, Option.bind_some, hs y (by rw [e]; simp), Option.bind_some, appO_ok (by simp; omega) (by decide), Option.bind_some, h3]
  rw [List.map_append] at ih
  exact ih
theorem node_eq : ∀ (d n : Nat) (x : Node), d ≤ n → Right d x → program_node n (mot d x) = some x := by
 intro d n x hn h
 induction h generalizing n with
 | step d s h =>
  obtain ⟨n, rfl⟩ : ∃ k, n = k + 1 := ⟨n - 1, by omega⟩
  have hf := (chk_zero.1 h).few
  rw [mot_step, program_node, program_node_body, joinK, if_pos (by rfl)]
  show (appO 16 ([] : List Stroke) s.strokes).bind (fun _ => some (Node.mk 0 s 0 [] [])) = _
  rw [appO_ok (by simp; omega) (by decide)]
  rfl
 | list d l h hl k ih =>
  obtain ⟨n, rfl⟩ : ∃ k, n = k + 1 := ⟨n - 1, by omega⟩
  have hf : ∀ y ∈ l, (program_node n (mot d y)).getD ⟨0, ⟨[], 0⟩, 0, [], []⟩ = y := fun y hy => by
   rw [ih y hy n (by omega)]
   rfl
  have hloop := node_loop (.list (l.map (mot d))) (by show (l.map (mot d)).length ≤ 1000; rw [List.length_map]; omega) (program_node n) (fun m => (program_node n m).getD ⟨0, ⟨[], 0⟩, 0, [], []⟩) (fun m hm => by
   obtain ⟨y, hy, rfl⟩ := List.mem_map.1 (show m ∈ l.map (mot d) from hm)
   show program_node n (mot d y) = some ((program_node n (mot d y)).getD ⟨0, ⟨[], 0⟩, 0, [], []⟩)
   rw [ih y hy n (by omega)]
   rfl) (fun l4 => some (Node.mk 1 (Step.mk [] 0) 0 [] l4)) (l.map (mot d)) [] rfl
  have e : ((Motion.list (l.map (mot d))).prts.map fun m => (program_node n m).getD ⟨0, ⟨[], 0⟩, 0, [], []⟩) = l := by
   show ((l.map (mot d)).map fun m => (program_node n m).getD ⟨0, ⟨[], 0⟩, 0, [], []⟩) = l
   rw [List.map_map]
   exact (List.map_congr_left fun y hy => hf y hy).trans (List.map_id l)
  rw [e] at hloop
  rw [mot_list, program_node, program_node_body, joinK, if_neg (by simp [Motion.isSingle]), if_pos (by rfl), joinK, fuel0]
  exact hloop
 | rep d c y h0 h1 h ih =>
  obtain ⟨n, rfl⟩ : ∃ k, n = k + 1 := ⟨n - 1, by omega⟩
  rw [mot_rep, program_node, program_node_body, joinK, if_neg (by simp [Motion.isSingle]), if_neg (by simp [Motion.isList]), if_pos (by rfl)]
  show (program_node n (mot d y)).bind (fun r2 => some (Node.mk 2 (Step.mk [] 0) c [] ([r2] : List Node))) = _
  rw [ih n (by omega), Option.bind_some]
 | cho d nm a b h ha hb iha ihb =>
  obtain ⟨n, rfl⟩ : ∃ k, n = k + 1 := ⟨n - 1, by omega⟩
  rw [mot_cho, program_node, program_node_body, joinK, if_neg (by simp [Motion.isSingle]), if_neg (by simp [Motion.isList]), if_neg (by simp [Motion.isRepeat]), if_pos (by rfl)]
  show (program_node n (mot d a)).bind (fun r3 => (program_node n (mot d b)).bind fun r4 => some (Node.mk 3 (Step.mk [] 0) 0 nm ([r3, r4] : List Node))) = _
  rw [iha n (by omega), Option.bind_some, ihb n (by omega), Option.bind_some]
theorem rplain_loop (x : Node) (hl : x.nodes.length ≤ 1000) (self : Node → Option Node) (f : Node → Node) (hs : ∀ y ∈ x.nodes, self y = some (f y)) (hp : ∀ y ∈ x.nodes, (partsN (f y)).length ≤ 1000) (K : List Node → Option Node) :
 ∀ (r pre acc : List Node), x.nodes = pre ++ r → acc.length ≤ pre.length * 1000 → ref15_Plain_loop1 x self K (r.length + 1) (pre.length : Int) acc = K (acc ++ r.flatMap fun y => if x.kind = 1 then partsN (f y) else [f y])
 | [], pre, acc, e, ha => by rw [ref15_Plain_loop1, end_mid e, if_neg (by simp), List.flatMap_nil, List.append_nil]
 | y :: r, pre, acc, e, ha => by
  obtain ⟨h1, h2, h3, h4, h5⟩ := step_mid e (by omega)
  have hy : y ∈ x.nodes := by rw [e]; simp
  have hpy := hp y hy
  have ih := fun acc => rplain_loop x hl self f hs hp K r (pre ++ [y]) acc h4
  have hal : acc.length ≤ 1000000 := by
   have : pre.length * 1000 ≤ 1000 * 1000 := Nat.mul_le_mul_right _ (by omega)
   omega
  rw [List.length_cons, ref15_Plain_loop1, h1, if_pos rfl, joinK, h2, Option.bind_some, hs y hy, Option.bind_some, h3, List.flatMap_cons, ← List.append_assoc]
  unfold partsN at hpy ih ⊢
  dsimp only at hpy ih ⊢
  by_cases hk : x.kind = 1
  · by_cases hi : (f y).kind = 1
    · rw [if_pos hi] at hpy
      rw [if_pos (by simp [hk, hi]), if_pos hk, if_pos hi, appO_ok (by omega) (by decide), Option.bind_some]
      exact ih _ (by rw [List.length_append, List.length_append, List.length_singleton]; omega)
    · rw [if_neg (by simp [hi]), if_pos hk, if_neg hi, appO_ok (by simp; omega) (by decide), Option.bind_some]
      exact ih _ (by rw [List.length_append, List.length_append, List.length_singleton, List.length_singleton]; omega)
  · rw [if_neg (by simp [hk]), if_neg hk, appO_ok (by simp; omega) (by decide), Option.bind_some]
    exact ih _ (by rw [List.length_append, List.length_append, List.length_singleton, List.length_singleton]; omega)
theorem rplain_eq : ∀ (d n : Nat) (x : Node), d ≤ n → Right d x → cntT d x ≤ 256 → ref15_Plain n x = some (plainN d x) := by
 intro d n x hn h
 induction h generalizing n with
 | step d s h =>
  intro _
  obtain ⟨n, rfl⟩ : ∃ k, n = k + 1 := ⟨n - 1, by omega⟩
  have hf := (chk_zero.1 h).few
  rw [plainN_step, ref15_Plain, ref15_Plain_body]
  show (appO 16 ([] : List Stroke) s.strokes).bind _ = _
  rw [appO_ok (by simp; omega) (by decide)]
  rfl
 | list d l h hl k ih =>
  intro hc
  obtain ⟨n, rfl⟩ : ∃ k, n = k + 1 := ⟨n - 1, by omega⟩
  have hcy : ∀ y ∈ l, cntT d y ≤ 256 := fun y hy => by have := cntT_sub (d := d) (x := ⟨1, ⟨[], 0⟩, 0, [], l⟩) hy; omega
  have pl : ∀ y ∈ l, (partsN (plainN d y)).length ≤ 256 := fun y hy => partsN_len (plain_ok (k y hy) (hcy y hy)).right (Nat.le_trans (plain_ok (k y hy) (hcy y hy)).cnt (hcy y hy))
  have hloop := rplain_loop ⟨1, ⟨[], 0⟩, 0, [], l⟩ (by show l.length ≤ 1000; omega) (ref15_Plain n) (plainN d) (fun y hy => ih y hy n (by omega) (hcy y hy)) (fun y hy => by have := pl y hy; omega) (fun l6 => if ((((1 : Int) == 1) && ((l6.length : Int) == 1)) || (((1 : Int) == 2) && ((0 : Int) == 1))) = true then (at? l6 0).bind fun x2 => some x2 else some (Node.mk 1 (Step.mk (([] : List Stroke) ++ []) 0) 0 [] l6)) l [] [] rfl (by simp)
  rw [ref15_Plain, ref15_Plain_body]
  show (appO 16 ([] : List Stroke) []).bind _ = _
  rw [appO_ok (by simp) (by decide), Option.bind_some, joinK, fuel0]
  refine hloop.trans ?_
  rw [plainN_list, List.nil_append]
  have e : (l.flatMap fun y => if (1 : Int) = 1 then partsN (plainN d y) else [plainN d y]) = l.flatMap fun y => partsN (plainN d y) := rfl
  show (if ((((1 : Int) == 1) && (((l.flatMap fun y => if (1 : Int) = 1 then partsN (plainN d y) else [plainN d y]).length : Int) == 1)) || (((1 : Int) == 2) && ((0 : Int) == 1))) = true then (at? (l.flatMap fun y => if (1 : Int) = 1 then partsN (plainN d y) else [plainN d y]) 0).bind fun x2 => some x2 else some (Node.mk 1 (Step.mk (([] : List Stroke) ++ []) 0) 0 [] (l.flatMap fun y => if (1 : Int) = 1 then partsN (plainN d y) else [plainN d y]))) = _
  rw [e]
  generalize (l.flatMap fun y => partsN (plainN d y)) = L
  by_cases h1 : L.length = 1
  · match L, h1 with
    | [w], _ => rfl
  · rw [if_neg (by simp; omega), if_neg h1]
    rfl
 | rep d c y h0 h1 h ih =>
  intro hc
  obtain ⟨n, rfl⟩ : ∃ k, n = k + 1 := ⟨n - 1, by omega⟩
  have hcy : cntT d y ≤ 256 := by have := cntT_sub (d := d) (x := ⟨2, ⟨[], 0⟩, c, [], [y]⟩) (y := y) (by simp); omega
  have hloop := rplain_loop ⟨2, ⟨[], 0⟩, c, [], [y]⟩ (by simp) (ref15_Plain n) (plainN d) (fun z hz => by rw [List.mem_singleton.1 hz]; exact ih n (by omega) hcy) (fun z hz => by rw [List.mem_singleton.1 hz]; have := partsN_len (plain_ok h hcy).right (Nat.le_trans (plain_ok h hcy).cnt hcy); omega) (fun l6 => if ((((2 : Int) == 1) && ((l6.length : Int) == 1)) || (((2 : Int) == 2) && (c == 1))) = true then (at? l6 0).bind fun x2 => some x2 else some (Node.mk 2 (Step.mk (([] : List Stroke) ++ []) 0) c [] l6)) [y] [] [] rfl (by simp)
  rw [ref15_Plain, ref15_Plain_body]
  show (appO 16 ([] : List Stroke) []).bind _ = _
  rw [appO_ok (by simp) (by decide), Option.bind_some, joinK, fuel0]
  refine hloop.trans ?_
  rw [plainN_rep]
  show (if (c == 1) = true then some (plainN d y) else some (Node.mk 2 (Step.mk [] 0) c [] [plainN d y])) = _
  by_cases h1 : c = 1
  · rw [if_pos (by simpa using h1), if_pos h1]
  · rw [if_neg (by simpa using h1), if_neg h1]
 | cho d nm a b h ha hb iha ihb =>
  intro hc
  obtain ⟨n, rfl⟩ : ∃ k, n = k + 1 := ⟨n - 1, by omega⟩
  have hsa : cntT d a ≤ 256 := by have := cntT_sub (d := d) (x := ⟨3, ⟨[], 0⟩, 0, nm, [a, b]⟩) (y := a) (by simp); omega
  have hsb : cntT d b ≤ 256 := by have := cntT_sub (d := d) (x := ⟨3, ⟨[], 0⟩, 0, nm, [a, b]⟩) (y := b) (by simp); omega
  have hla := partsN_len (plain_ok ha hsa).right (Nat.le_trans (plain_ok ha hsa).cnt hsa)
  have hlb := partsN_len (plain_ok hb hsb).right (Nat.le_trans (plain_ok hb hsb).cnt hsb)
  have hloop := rplain_loop ⟨3, ⟨[], 0⟩, 0, nm, [a, b]⟩ (by simp) (ref15_Plain n) (plainN d) (fun z hz => by
   rcases List.mem_cons.1 hz with rfl | hz
   · exact iha n (by omega) hsa
   · rw [List.mem_singleton.1 hz]; exact ihb n (by omega) hsb) (fun z hz => by
   rcases List.mem_cons.1 hz with rfl | hz
   · omega
   · rw [List.mem_singleton.1 hz]; omega) (fun l6 => if ((((3 : Int) == 1) && ((l6.length : Int) == 1)) || (((3 : Int) == 2) && ((0 : Int) == 1))) = true then (at? l6 0).bind fun x2 => some x2 else some (Node.mk 3 (Step.mk (([] : List Stroke) ++ []) 0) 0 nm l6)) [a, b] [] [] rfl (by simp)
  rw [ref15_Plain, ref15_Plain_body]
  show (appO 16 ([] : List Stroke) []).bind _ = _
  rw [appO_ok (by simp) (by decide), Option.bind_some, joinK, fuel0]
  refine hloop.trans ?_
  rw [plainN_cho]
  rfl
section
variable (x : Node) (g : GoodN x) (hN : lightB x = true → NamOk x)
include g hN
theorem lNormal_eq : program_Normal x = some (ifOk x ⟨0, ⟨[], 0⟩, 0, [], []⟩ (plainN 16 x, 0)) := by
 rw [program_Normal, lcheckN_eq x g hN, Option.bind_some]
 refine ok_of x g hN (fun h hc => ?_) _ rfl
 rw [of_eq 16 600 x (by omega) h, Option.bind_some, normal_eq 16 600 x (by omega) h hc, Option.bind_some, node_eq 16 600 _ (by omega) (plain_ok h hc).right, Option.bind_some]
theorem rNormal_eq : ref15_Normal x = some (ifOk x ⟨0, ⟨[], 0⟩, 0, [], []⟩ (plainN 16 x, 0)) := by
 rw [ref15_Normal, rcheckN_eq x g hN, Option.bind_some]
 refine ok_of x g hN (fun h hc => ?_) _ rfl
 rw [rplain_eq 16 600 x (by omega) h hc, Option.bind_some]
end
theorem zero_good : GoodN ⟨0, ⟨[], 0⟩, 0, [], []⟩ := .mk _ (by simp) (by simp) (by simp) (fun y hy => by cases hy)
theorem zero_light : lightB ⟨0, ⟨[], 0⟩, 0, [], []⟩ = true := by decide
theorem zero_same : sameN ⟨0, ⟨[], 0⟩, 0, [], []⟩ ⟨0, ⟨[], 0⟩, 0, [], []⟩ = true := by
 rw [sameN, zero_light, eqN_refl 16 _ (light_iff.1 zero_light).2]
 rfl
theorem normal_same (x : Node) : ref15_Same (ifOk x ⟨0, ⟨[], 0⟩, 0, [], []⟩ (plainN 16 x, 0)).1 (ifOk x ⟨0, ⟨[], 0⟩, 0, [], []⟩ (plainN 16 x, 0)).1 = some true := by
 unfold ifOk
 by_cases h : checkN x = 0
 · have hr := check_right.1 h
   have po := plain_ok hr.1 hr.2
   rw [if_neg (by simpa using h), rSame_eq _ _ (right_good po.right) (right_good po.right) fun _ => right_str po.right, sameN_refl po.right (Nat.le_trans po.cnt hr.2)]
 · rw [if_pos h, rSame_eq _ _ zero_good zero_good fun _ => .mk _ (by simp) (by simp) (fun y hy => by cases hy), zero_same]
theorem fault_len (x : Node) : (faultR x).1.length ≤ 6 := by
 unfold faultR
 split
 · simp
 · split
   · simp
   · have := (faultF_bad x (inpN x) (2 ^ (inpN x).length) 0).2.1
     omega
theorem law_Faults15 (x : Node) (g : GoodN x) : law15_ProgramFaults x = some true := by
 obtain ⟨b, h1, h2⟩ := law_few x [] g (by simp)
 rw [law15_ProgramFaults, h1, Option.bind_some, awake_true]
 cases b with
 | false => rfl
 | true =>
  have hN : lightB x = true → NamOk x := fun q => ((h2 rfl).1 q).1.nam
  have hf := fault_len x
  rw [if_neg (by simp), lFaulty_eq x g hN, rFaulty_eq x g hN, lNormal_eq x g hN, rNormal_eq x g hN]
  simp only [Option.bind_some, beq_self_eq_true, Bool.and_self, Bool.and_true, if_true, eqS_refl _ (Nat.le_trans hf (by decide)), normal_same]
end Go.Proofs.YtgpfgnpdbmbknaaGreatDoor.W
