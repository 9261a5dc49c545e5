/- Our own calculus over the model's rules: frames as lists of slots, states of the world as predicates, regions in the order of their text. A general text: it names no program. -/
import Derived.WalkKit
import Derived.Deep.Quiet
set_option linter.unusedVariables false
namespace Go.Proofs.YtpigfknmlmeihaaDoor.W
open Go Go.RowKit

/-! ### Frames: what is known of the slots -/
abbrev Frm := List (Nat × Value)
def look : Frm → Nat → Option Value
  | [], _ => none
  | (k, v) :: g, t => bif Nat.beq k t then some v else look g t
def ev (g : Frm) : Operand → Option Value
  | .tmp t => look g t
  | .const v => some v
  | .global n => some (.pointer (some ⟨n, 0, none⟩))
  | .func f => some (.func (.func f) #[] #[])
def Sub (g g' : Frm) : Prop := ∀ t v, look g t = some v → look g' t = some v
theorem Sub.refl (g : Frm) : Sub g g := fun _ _ h => h
theorem Sub.trans {a b c : Frm} (h : Sub a b) (k : Sub b c) : Sub a c := fun t v e => k t v (h t v e)
theorem Sub.nil (g : Frm) : Sub [] g := fun _ _ h => by cases h
theorem look_cons (k t : Nat) (v : Value) (g : Frm) : look ((k, v) :: g) t = if k = t then some v else look g t := by
  simp only [look]
  cases h : Nat.beq k t with
  | true => rw [if_pos (Nat.eq_of_beq_eq_true h)]; rfl
  | false => rw [if_neg (Nat.ne_of_beq_eq_false h)]; rfl
theorem Sub.cons {t : Nat} {v : Value} {g g' : Frm} (h : look g' t = some v) (k : Sub g g') : Sub ((t, v) :: g) g' := fun u x e => by
  rw [look_cons] at e
  split at e
  · rename_i h1; subst h1; cases e; exact h
  · exact k u x e
theorem Sub.cons' {t : Nat} {v u : Value} {g g' : Frm} (h : look g' t = some u) (e : u = v) (k : Sub g g') : Sub ((t, v) :: g) g' := Sub.cons (by rw [h, e]) k
theorem Sub.skip {t : Nat} {v : Value} {g g' : Frm} (h : look g t = none) (k : Sub g g') : Sub g ((t, v) :: g') := fun u x e => by
  rw [look_cons]
  split
  · rename_i h1; subst h1; rw [h] at e; cases e
  · exact k u x e
theorem Sub.over {t : Nat} {v : Value} {g g' : Frm} (k : Sub g g') : Sub ((t, v) :: g) ((t, v) :: g') := fun u x e => by
  rw [look_cons] at e ⊢
  split
  · rename_i h1; rw [if_pos h1] at e; exact e
  · rename_i h1; rw [if_neg h1] at e; exact k u x e

structure Fits (n : Nat) (g : Frm) (a : Act) : Prop where
  defers : a.defers = []
  size : a.tmps.size = n
  slots : ∀ t v, look g t = some v → a.tmps[t]? = some v
theorem Fits.sub {n : Nat} {g g' : Frm} {a : Act} (h : Fits n g' a) (k : Sub g g') : Fits n g a := ⟨h.defers, h.size, fun t v e => h.slots t v (k t v e)⟩
theorem Fits.eval {n : Nat} {g : Frm} {a : Act} (h : Fits n g a) {x : Operand} {v : Value} (e : ev g x = some v) : a.eval x = v := by
  cases x with
  | tmp t =>
    have := h.slots t v e
    simp only [Act.eval, Array.getD_eq_getD_getElem?, this, Option.getD_some]
  | const u => simpa [ev, Act.eval] using e
  | global i => simpa [ev, Act.eval] using e
  | func f => simpa [ev, Act.eval] using e
theorem Fits.put {n : Nat} {g : Frm} {a : Act} (h : Fits n g a) {d : Nat} (hd : Nat.blt d n = true) (v : Value) : Fits n ((d, v) :: g) (a.put (some d) v) := by
  have hd' : d < n := by simpa [Nat.blt_eq] using hd
  refine ⟨h.defers, by simp [Act.put, h.size], fun t u e => ?_⟩
  rw [look_cons] at e
  simp only [Act.put, Array.getElem?_setIfInBounds]
  split at e
  · rename_i h1; subst h1; cases e; rw [if_pos rfl, if_pos (by rw [h.size]; exact hd')]
  · rename_i h1; rw [if_neg h1]; exact h.slots t u e
theorem Fits.put_none {n : Nat} {g : Frm} {a : Act} (h : Fits n g a) (v : Value) : Fits n g (a.put none v) := h
/-- A slot of which nothing is known is written. -/
theorem Fits.put_fresh {n : Nat} {g : Frm} {a : Act} (h : Fits n g a) (dst : Option Tmp) (v : Value) (hf : ∀ d, dst = some d → look g d = none) : Fits n g (a.put dst v) := by
  cases dst with
  | none => exact h
  | some d =>
    refine ⟨h.defers, by simp [Act.put, h.size], fun t u e => ?_⟩
    simp only [Act.put, Array.getElem?_setIfInBounds]
    have hne : d ≠ t := fun hdt => by subst hdt; rw [hf d rfl] at e; cases e
    rw [if_neg hne]
    exact h.slots t u e

/-! ### Code -/
abbrev Pred := World → Prop
def WP (P : Program) (n : Nat) (c : Code) (g : Frm) (S : Pred) (Q : Exit → Frm → Pred → Prop) : Prop :=
  ∀ a w, Fits n g a → S w → c.wp P (fun e a' w' => ∃ g' S', Fits n g' a' ∧ S' w' ∧ Q e g' S') a w
section
variable {P : Program} {n : Nat} {g : Frm} {S : Pred} {Q : Exit → Frm → Pred → Prop}
def thenQ (K : Frm → Pred → Prop) (Q : Exit → Frm → Pred → Prop) : Exit → Frm → Pred → Prop
  | .normal => K
  | e => Q e
def inBlockQ (id : Nat) (Q : Exit → Frm → Pred → Prop) : Exit → Frm → Pred → Prop
  | .exit j => bif Nat.beq j id then Q .normal else Q (.exit j)
  | e => Q e
theorem then_normal {K : Frm → Pred → Prop} (h : K g S) : thenQ K Q .normal g S := h
theorem then_ret {K : Frm → Pred → Prop} (h : Q .ret g S) : thenQ K Q .ret g S := h
theorem then_exit {K : Frm → Pred → Prop} {id : Nat} (h : Q (.exit id) g S) : thenQ K Q (.exit id) g S := h
theorem block_normal {id : Nat} (h : Q .normal g S) : inBlockQ id Q .normal g S := h
theorem block_ret {id : Nat} (h : Q .ret g S) : inBlockQ id Q .ret g S := h
theorem block_here {id : Nat} (h : Q .normal g S) : inBlockQ id Q (.exit id) g S := by
  simp only [inBlockQ]
  rw [show Nat.beq id id = true by simp]
  exact h
theorem block_pass {id j : Nat} (hj : Nat.beq j id = false) (h : Q (.exit j) g S) : inBlockQ id Q (.exit j) g S := by
  simp only [inBlockQ]
  rw [hj]
  exact h
theorem WP.sub {c : Code} {g₁ : Frm} (k : Sub g₁ g) (h : WP P n c g₁ S Q) : WP P n c g S Q := fun a w f s => h a w (f.sub k) s
theorem WP.weaken {c : Code} {S₁ : Pred} (k : ∀ w, S w → S₁ w) (h : WP P n c g S₁ Q) : WP P n c g S Q := fun a w f s => h a w f (k w s)
theorem WP.mono {c : Code} {Q' : Exit → Frm → Pred → Prop} (k : ∀ e g S, Q e g S → Q' e g S) (h : WP P n c g S Q) : WP P n c g S Q' := fun a w f s =>
  Code.wp_mono (fun _ _ _ ⟨g', S', hf, hs, hq⟩ => ⟨g', S', hf, hs, k _ _ _ hq⟩) (h a w f s)
theorem WP.seq {x y : Code} (h : WP P n x g S (thenQ (fun g' S' => WP P n y g' S' Q) Q)) : WP P n (.seq x y) g S Q := fun a w f s => by
  refine wp_seq (Code.wp_mono (fun e a' w' ⟨g', S', hf, hs, hq⟩ => ?_) (h a w f s))
  cases e with
  | normal => exact hq a' w' hf hs
  | exit id => exact ⟨g', S', hf, hs, hq⟩
  | goto l => exact ⟨g', S', hf, hs, hq⟩
  | ret => exact ⟨g', S', hf, hs, hq⟩
  | panic c => exact ⟨g', S', hf, hs, hq⟩
  | outgrown => exact ⟨g', S', hf, hs, hq⟩
theorem WP.seq_join {x y : Code} (J : Frm → Pred → Prop) (h : WP P n x g S (thenQ J Q)) (k : ∀ g' S', J g' S' → WP P n y g' S' Q) : WP P n (.seq x y) g S Q :=
  WP.seq (h.mono fun e g' S' hq => by cases e <;> first | exact hq | exact k g' S' hq)
theorem WP.skip (h : Q .normal g S) : WP P n .skip g S Q := fun _ _ f s => wp_skip ⟨g, S, f, s, h⟩
theorem WP.ret (h : Q .ret g S) : WP P n .ret g S Q := fun _ _ f s => wp_ret ⟨g, S, f, s, h⟩
theorem WP.exit {id : Nat} (h : Q (.exit id) g S) : WP P n (.exit id) g S Q := fun _ _ f s => wp_exit ⟨g, S, f, s, h⟩
theorem WP.block {id : Nat} {c : Code} (h : WP P n c g S (inBlockQ id Q)) : WP P n (.block id c) g S Q := fun a w f s => by
  refine wp_block (Code.wp_mono (fun e a' w' ⟨g', S', hf, hs, hq⟩ => ?_) (h a w f s))
  cases e with
  | normal => exact ⟨g', S', hf, hs, hq⟩
  | exit j =>
    simp only [inBlockQ] at hq
    simp only [Exit.inBlock]
    cases hb : Nat.beq j id with
    | true =>
      have hj := Nat.eq_of_beq_eq_true hb
      subst hj
      rw [hb] at hq
      rw [if_pos rfl]
      exact ⟨g', S', hf, hs, hq⟩
    | false =>
      have hj := Nat.ne_of_beq_eq_false hb
      rw [hb] at hq
      rw [if_neg hj]
      exact ⟨g', S', hf, hs, hq⟩
  | goto l => exact ⟨g', S', hf, hs, hq⟩
  | ret => exact ⟨g', S', hf, hs, hq⟩
  | panic c => exact ⟨g', S', hf, hs, hq⟩
  | outgrown => exact ⟨g', S', hf, hs, hq⟩
theorem WP.cond {c : Operand} {x y : Code} {b : Bool} (hc : ev g c = some (.bool b)) (ht : b = true → WP P n x g S Q) (hf : b = false → WP P n y g S Q) : WP P n (.cond c x y) g S Q := fun a w f s =>
  wp_cond (f.eval hc) (by cases b with
    | true => exact ht rfl a w f s
    | false => exact hf rfl a w f s)
theorem WP.cond_true {c : Operand} {x y : Code} (hc : ev g c = some (.bool true)) (h : WP P n x g S Q) : WP P n (.cond c x y) g S Q := WP.cond hc (fun _ => h) (fun h => by cases h)
theorem WP.cond_false {c : Operand} {x y : Code} (hc : ev g c = some (.bool false)) (h : WP P n y g S Q) : WP P n (.cond c x y) g S Q := WP.cond hc (fun h => by cases h) (fun _ => h)

theorem wp_loop_fuel {c : Code} {Q : Exit → Act → World → Prop} (I : Nat → Act → World → Prop) (fuel : Nat) {a : Act} {w : World} (h₀ : I fuel a w)
    (round : ∀ m a w, I m a w → c.wp P (Exit.then (fun a' w' => ∃ m', m' < m ∧ I m' a' w') Q) a w) : (Code.loop c).wp P Q a w := by
  intro b k cs
  have key : ∀ m a w, I m a w → ∃ e a' w', Q e a' w' ∧ Arrives P (lone (b.at a (.code c :: .inLoop c :: k)) cs w) b k cs e a' w' := by
    intro m
    induction m using Nat.strongRecOn with
    | _ m ih =>
      intro a w hI
      obtain ⟨e, a₁, w₁, hq, harr⟩ := round m a w hI b (.inLoop c :: k) cs
      cases e with
      | normal =>
        obtain ⟨m', hlt, hI₁⟩ := hq
        obtain ⟨e₂, a₂, w₂, hq₂, harr₂⟩ := ih m' hlt a₁ w₁ hI₁
        exact ⟨e₂, a₂, w₂, hq₂, .of_steps (Steps.trans harr (.one step_inLoop)) harr₂⟩
      | exit id => exact ⟨_, a₁, w₁, hq, .pass (x := .inLoop c) rfl (fun _ _ => .inl (by simp)) harr⟩
      | goto l => exact ⟨_, a₁, w₁, hq, .pass (x := .inLoop c) rfl (fun _ _ => .inl (by simp)) harr⟩
      | ret => exact ⟨_, a₁, w₁, hq, .pass (x := .inLoop c) rfl (fun _ _ => .inl (by simp)) harr⟩
      | panic ch => exact ⟨_, a₁, w₁, hq, .pass (x := .inLoop c) rfl (fun _ _ => .inl (by simp)) harr⟩
      | outgrown => exact ⟨_, a₁, w₁, hq, .pass (x := .inLoop c) rfl (fun _ _ => .inl (by simp)) harr⟩
  obtain ⟨e, a', w', hq, harr⟩ := key _ a w h₀
  exact ⟨e, a', w', hq, .of_steps (.one step_loop) harr⟩

/-- A loop: the relation takes the fuel that is left, the frame, the state. -/
theorem WP.loop {c : Code} (I : Nat → Frm → Pred → Prop) (fuel : Nat) (h : I fuel g S) (zero : ∀ g S, I 0 g S → False)
    (step : ∀ m g S, I (m + 1) g S → WP P n c g S (thenQ (fun g' S' => I m g' S') Q)) : WP P n (.loop c) g S Q := fun a w f s => by
  refine wp_loop_fuel (fun m a w => ∃ g S, Fits n g a ∧ S w ∧ I m g S) fuel ⟨g, S, f, s, h⟩ (fun m a w ⟨g, S, f, s, hI⟩ => ?_)
  cases m with
  | zero => exact (zero g S hI).elim
  | succ m =>
    refine Code.wp_mono (fun e a' w' ⟨g', S', hf, hs, hq⟩ => ?_) (step m g S hI a w f s)
    cases e with
    | normal => exact ⟨m, Nat.lt_succ_self m, g', S', hf, hs, hq⟩
    | exit id => exact ⟨g', S', hf, hs, hq⟩
    | goto l => exact ⟨g', S', hf, hs, hq⟩
    | ret => exact ⟨g', S', hf, hs, hq⟩
    | panic c => exact ⟨g', S', hf, hs, hq⟩
    | outgrown => exact ⟨g', S', hf, hs, hq⟩
end

/-! ### Regions -/
def WL (P : Program) (n : Nat) (ops : Array Oper) (l : List Oper) (g : Frm) (S : Pred) (K : Frm → Pred → Prop) : Prop :=
  ∀ a w, Fits n g a → S w → ∀ Q : Exit → Act → World → Prop, (∀ g' S' a' w', K g' S' → Fits n g' a' → S' w' → Q .normal a' w') → wpList P ops Q l a w
def QL (P : Program) (n : Nat) (ops : Array Oper) (S : Pred) (l : List Oper) (g : Frm) (J : Frm → Prop) : Prop :=
  ∀ a, Fits n g a → ∀ Q : Act → Prop, (∀ g' a', J g' → Fits n g' a' → Q a') → wpQuiet P ops S Q l a
/-- One operation, in every world of the state: it yields v and leaves the state. -/
def OQ (P : Program) (n : Nat) (o : Oper) (g : Frm) (S : Pred) (v : Value) : Prop :=
  ∀ a w, Fits n g a → S w → Oper.quietUpon P S w v ((execOp a.eval o).run P w)
section
variable {P : Program} {n : Nat} {g : Frm} {S : Pred} {K : Frm → Pred → Prop} {J : Frm → Prop} {ops : Array Oper} {l : List Oper} {o : Oper}
theorem WL.nil (h : K g S) : WL P n ops [] g S K := fun _ _ f s _ hQ => hQ g S _ _ h f s
theorem QL.nil (h : J g) : QL P n ops S [] g J := fun _ f _ hQ => hQ g _ h f
theorem WL.sub {g₁ : Frm} (k : Sub g₁ g) (h : WL P n ops l g₁ S K) : WL P n ops l g S K := fun a w f s => h a w (f.sub k) s
theorem WL.weaken {S₁ : Pred} (k : ∀ w, S w → S₁ w) (h : WL P n ops l g S₁ K) : WL P n ops l g S K := fun a w f s => h a w f (k w s)
theorem QL.sub {g₁ : Frm} (k : Sub g₁ g) (h : QL P n ops S l g₁ J) : QL P n ops S l g J := fun a f => h a (f.sub k)
theorem QL.mono {J' : Frm → Prop} (k : ∀ g, J g → J' g) (h : QL P n ops S l g J) : QL P n ops S l g J' := fun a f Q hQ => h a f Q (fun g' a' j f' => hQ g' a' (k g' j) f')

theorem OQ.wp {v : Value} (h : OQ P n o g S v) {a : Act} {w : World} (f : Fits n g a) (s : S w) {K : Act → World → Prop} {Q : Exit → Act → World → Prop} (hk : ∀ w', S w' → K (a.put o.dst v) w') : o.wp P a w K Q := by
  have h3 := h a w f s
  unfold Oper.wp
  generalize (execOp a.eval o).run P w = r at *
  cases r with
  | ok x w' =>
    cases x <;> simp only [Oper.quietUpon] at h3 <;> simp only [Oper.upon]
    case value u => obtain ⟨e1, e2⟩ := h3; rw [e1, e2]; exact hk _ s
    case skip => obtain ⟨e1, e2⟩ := h3; rw [e1, ← e2]; exact hk _ s
    case enter f args => obtain ⟨e1, hc⟩ := h3; rw [e1]; exact hc.mono fun e w'' ⟨he, hw''⟩ => by subst he; exact hk _ hw''
  | halt x w' => simp only [Oper.quietUpon] at h3

theorem wpList_do {Q : Exit → Act → World → Prop} {a : Act} {w : World} (hw : Region.wanted o (yielded ops a.tmps) = true) (h : o.wp P a w (wpList P ops Q l) Q) : wpList P ops Q (o :: l) a w := by
  unfold wpList
  rw [if_pos hw]
  exact .inl h
theorem wpList_pass {Q : Exit → Act → World → Prop} {a : Act} {w : World} (hw : Region.wanted o (yielded ops a.tmps) = false) (h : wpList P ops Q l (a.put o.dst undef) w) : wpList P ops Q (o :: l) a w := by
  unfold wpList
  rw [if_neg (by simp [hw])]
  exact h
theorem wanted_none (hg : o.guard = none) (y : Nat → Option Bool) : Region.wanted o y = true := by simp [Region.wanted, hg]
theorem yielded_of {a : Act} (f : Fits n g a) {j t : Nat} {b : Bool} (hj : ((ops[j]?).bind (·.dst)) = some t) (ht : look g t = some (.bool b)) : yielded ops a.tmps j = some b := by
  simp [yielded, hj, f.slots t _ ht]
theorem wanted_yes {a : Act} (f : Fits n g a) {j t : Nat} {b c : Bool} (hg : o.guard = some (j, b)) (hj : ((ops[j]?).bind (·.dst)) = some t) (ht : look g t = some (.bool c)) (hc : c = b) : Region.wanted o (yielded ops a.tmps) = true := by
  subst hc
  simp [Region.wanted, hg, yielded_of f hj ht]
theorem wanted_no {a : Act} (f : Fits n g a) {j t : Nat} {b c : Bool} (hg : o.guard = some (j, b)) (hj : ((ops[j]?).bind (·.dst)) = some t) (ht : look g t = some (.bool c)) (hc : c = !b) : Region.wanted o (yielded ops a.tmps) = false := by
  subst hc
  simp [Region.wanted, hg, yielded_of f hj ht]
theorem wanted_undef {a : Act} (f : Fits n g a) {j t : Nat} {b : Bool} (hg : o.guard = some (j, b)) (hj : ((ops[j]?).bind (·.dst)) = some t) (ht : look g t = some undef) : Region.wanted o (yielded ops a.tmps) = false := by
  have : yielded ops a.tmps j = none := by simp [yielded, hj, f.slots t _ ht, undef]
  simp [Region.wanted, hg, this]

/-- is this operation carried out in this frame? -/
def Runs (n : Nat) (ops : Array Oper) (g : Frm) (o : Oper) : Prop := ∀ a, Fits n g a → Region.wanted o (yielded ops a.tmps) = true
def Idle (n : Nat) (ops : Array Oper) (g : Frm) (o : Oper) : Prop := ∀ a, Fits n g a → Region.wanted o (yielded ops a.tmps) = false
theorem Runs.free (hg : o.guard = none) : Runs n ops g o := fun _ _ => wanted_none hg _
theorem Runs.yes {L : List Oper} {j t : Nat} {b c : Bool} (hg : o.guard = some (j, b)) (hj : ((L[j]?).bind (·.dst)) = some t) (ht : look g t = some (.bool c)) (hc : c = b) : Runs n L.toArray g o := fun _ f => wanted_yes f hg (by simpa using hj) ht hc
theorem Idle.no {L : List Oper} {j t : Nat} {b c : Bool} (hg : o.guard = some (j, b)) (hj : ((L[j]?).bind (·.dst)) = some t) (ht : look g t = some (.bool c)) (hc : c = !b) : Idle n L.toArray g o := fun _ f => wanted_no f hg (by simpa using hj) ht hc
theorem Idle.undef {L : List Oper} {j t : Nat} {b : Bool} (hg : o.guard = some (j, b)) (hj : ((L[j]?).bind (·.dst)) = some t) (ht : look g t = some undef) : Idle n L.toArray g o := fun _ f => wanted_undef f hg (by simpa using hj) ht

theorem WL.quiet {d : Nat} {v : Value} (hr : Runs n ops g o) (hd : o.dst = some d) (hn : Nat.blt d n = true) (h : OQ P n o g S v) (k : WL P n ops l ((d, v) :: g) S K) : WL P n ops (o :: l) g S K := fun a w f s Q hQ =>
  wpList_do (hr a f) (h.wp f s fun w' s' => k _ w' (by rw [hd]; exact f.put hn v) s' Q hQ)
theorem WL.idle {d : Nat} (hr : Idle n ops g o) (hd : o.dst = some d) (hn : Nat.blt d n = true) (k : WL P n ops l ((d, undef) :: g) S K) : WL P n ops (o :: l) g S K := fun a w f s Q hQ =>
  wpList_pass (hr a f) (k _ w (by rw [hd]; exact f.put hn undef) s Q hQ)
theorem WL.idle0 (hr : Idle n ops g o) (hd : o.dst = none) (k : WL P n ops l g S K) : WL P n ops (o :: l) g S K := fun a w f s Q hQ =>
  wpList_pass (hr a f) (k _ w (by rw [hd]; exact f) s Q hQ)
theorem QL.quiet {d : Nat} {v : Value} (hr : Runs n ops g o) (hd : o.dst = some d) (hn : Nat.blt d n = true) (h : OQ P n o g S v) (k : QL P n ops S l ((d, v) :: g) J) : QL P n ops S (o :: l) g J := fun a f Q hQ => by
  unfold wpQuiet
  rw [if_pos (hr a f)]
  exact ⟨v, fun w s => h a w f s, k _ (by rw [hd]; exact f.put hn v) Q hQ⟩
theorem QL.idle {d : Nat} (hr : Idle n ops g o) (hd : o.dst = some d) (hn : Nat.blt d n = true) (k : QL P n ops S l ((d, undef) :: g) J) : QL P n ops S (o :: l) g J := fun a f Q hQ => by
  unfold wpQuiet
  rw [if_neg (by rw [hr a f]; simp)]
  exact k _ (by rw [hd]; exact f.put hn undef) Q hQ

theorem wpQuiet_mono {Q Q' : Act → Prop} (h : ∀ a, Q a → Q' a) : ∀ (l : List Oper) (a : Act), wpQuiet P ops S Q l a → wpQuiet P ops S Q' l a
  | [], a, hh => h a hh
  | o :: l, a, hh => by
    unfold wpQuiet at *
    split
    · rename_i hw; rw [if_pos hw] at hh; obtain ⟨v, h1, h2⟩ := hh; exact ⟨v, h1, wpQuiet_mono h l _ h2⟩
    · rename_i hw; rw [if_neg hw] at hh; exact wpQuiet_mono h l _ hh
theorem wpQuiet_append {Q : Act → Prop} : ∀ (l r : List Oper) (a : Act), wpQuiet P ops S (fun a' => wpQuiet P ops S Q r a') l a → wpQuiet P ops S Q (l ++ r) a
  | [], _, _, hh => hh
  | o :: l, r, a, hh => by
    show wpQuiet P ops S Q (o :: (l ++ r)) a
    unfold wpQuiet at *
    split
    · rename_i hw; rw [if_pos hw] at hh; obtain ⟨v, h1, h2⟩ := hh; exact ⟨v, h1, wpQuiet_append l r _ h2⟩
    · rename_i hw; rw [if_neg hw] at hh; exact wpQuiet_append l r _ hh
theorem wpList_of_quiet {Q : Exit → Act → World → Prop} {r : List Oper} : ∀ (l : List Oper) (a : Act) (w : World), S w → wpQuiet P ops S (fun a' => ∀ w', S w' → wpList P ops Q r a' w') l a → wpList P ops Q (l ++ r) a w
  | [], _, w, s, hh => hh w s
  | o :: l, a, w, s, hh => by
    show wpList P ops Q (o :: (l ++ r)) a w
    unfold wpQuiet at hh
    by_cases hw : Region.wanted o (yielded ops a.tmps) = true
    · rw [if_pos hw] at hh
      exact wpList_do hw (Oper.wp_of_quiet s (fun a' w' s' h' => wpList_of_quiet l a' w' s' h') hh)
    · rw [if_neg hw] at hh
      exact wpList_pass (by simpa using hw) (wpList_of_quiet l _ w s hh)
/-- A part of a region that is quiet is walked by itself; what follows, once, from whatever J says. -/
theorem WL.part (k : Nat) (h : QL P n ops S (l.take k) g J) (h' : ∀ g', J g' → WL P n ops (l.drop k) g' S K) : WL P n ops l g S K := fun a w f s Q hQ => by
  rw [← List.take_append_drop k l]
  exact wpList_of_quiet _ a w s (h a f _ fun g' a' j f' w' s' => h' g' j a' w' f' s' Q hQ)
theorem QL.part {J' : Frm → Prop} (k : Nat) (h : QL P n ops S (l.take k) g J') (h' : ∀ g', J' g' → QL P n ops S (l.drop k) g' J) : QL P n ops S l g J := fun a f Q hQ => by
  rw [← List.take_append_drop k l]
  exact wpQuiet_append _ _ a (h a f _ fun g' a' j f' => h' g' j a' f' Q hQ)
theorem WL.of_quiet (h : QL P n ops S l g fun g' => K g' S) : WL P n ops l g S K := by
  refine WL.part l.length (by rw [List.take_length]; exact h) (fun g' j => ?_)
  rw [List.drop_length]
  exact WL.nil j

theorem wp_then {o : Oper} {a : Act} {w : World} {next next' K : Act → World → Prop} {Q : Exit → Act → World → Prop} (hn : ∀ a w, next a w → next' a w) (h : o.wp P a w next (Exit.then K Q)) : o.wp P a w next' Q := by
  unfold Oper.wp at *
  generalize (execOp a.eval o).run P w = r at *
  cases r with
  | ok x w' =>
    cases x <;> simp only [Oper.upon] at h ⊢
    case value u => exact hn _ _ h
    case skip => exact hn _ _ h
    case defer d => exact hn _ _ h
    case enter f args =>
      refine Calls.mono h fun e w'' he => ?_
      cases e with
      | returned v => exact hn _ _ he
      | panicked c => exact he
      | outgrown => exact he
    case row row args => exact Rows.mono h fun u w'' he => hn _ _ he
  | halt x w' =>
    cases x <;> simp only [Oper.upon] at h ⊢
    case panic u => exact h
theorem wpList_cut {Q : Exit → Act → World → Prop} {r : List Oper} : ∀ (l : List Oper) (a : Act) (w : World), wpList P ops (Exit.then (fun a' w' => wpList P ops Q r a' w') Q) l a w → wpList P ops Q (l ++ r) a w
  | [], _, _, h => h
  | o :: l, a, w, h => by
    show wpList P ops Q (o :: (l ++ r)) a w
    unfold wpList at h ⊢
    split
    · rename_i hw
      rw [if_pos hw] at h
      rcases h with h | ⟨h1, h2⟩
      · exact .inl (wp_then (fun a' w' h' => wpList_cut l a' w' h') h)
      · exact .inr ⟨h1, h2⟩
    · rename_i hw
      rw [if_neg hw] at h
      exact wpList_cut l _ w h
/-- A part of a region by itself; what follows, once. -/
theorem WL.cut (k : Nat) {J : Frm → Pred → Prop} (h : WL P n ops (l.take k) g S J) (h' : ∀ g' S', J g' S' → WL P n ops (l.drop k) g' S' K) : WL P n ops l g S K := fun a w f s Q hQ => by
  rw [← List.take_append_drop k l]
  exact wpList_cut _ a w (h a w f s _ fun g' S' a' w' j f' s' => h' g' S' j a' w' f' s' Q hQ)
theorem WL.cut_bool (k d : Nat) {x : Bool} (h : WL P n ops (l.take k) g S fun g' S' => Sub ((d, .bool x) :: g) g' ∧ ∀ w, S' w → S w) (h' : WL P n ops (l.drop k) ((d, .bool x) :: g) S K) : WL P n ops l g S K :=
  WL.cut k h fun g' S' ⟨h1, h2⟩ => WL.sub h1 (WL.weaken h2 h')
theorem QL.part_bool (k d : Nat) {x : Bool} (h : QL P n ops S (l.take k) g fun g' => Sub ((d, .bool x) :: g) g') (h' : QL P n ops S (l.drop k) ((d, .bool x) :: g) J) : QL P n ops S l g J :=
  QL.part k h fun g' h1 => QL.sub h1 h'
theorem guard_eq {x : Operand} {c b : Bool} (h : ev g x = some (.bool c)) (hc : c = b) : ev g x = some (.bool b) := by rw [h, hc]

theorem WP.region {Q : Exit → Frm → Pred → Prop} {id : Nat} {l : List Oper} (h : WL P n l.toArray l g S fun g' S' => Q .normal g' S') : WP P n (.region id l.toArray false) g S Q := fun a w f s =>
  wp_region_lit (h a w f s _ fun g' S' _ _ hq hf hs => ⟨g', S', hf, hs, hq⟩)
theorem WP.region_draws {Q : Exit → Frm → Pred → Prop} {id : Nat} {l : List Oper} (hm : P.follows .mixedOrders = true) (hB : Region.lexB .any l.toArray = true) (hd : ∀ w, S w → S w.drew)
    (h : QL P n l.toArray S l g fun g' => Q .normal g' S) : WP P n (.region id l.toArray true) g S Q := fun a w f s =>
  wp_region_quiet (C := S) hm hB (hd w s) (by
    have := h a f (fun a' => ∀ w', S w' → ∃ g' S', Fits n g' a' ∧ S' w' ∧ Q .normal g' S') (fun g' a' hq hf w' hs => ⟨g', S, hf, hs, hq⟩)
    simpa using this)
end

/-! ### A whole call -/
def retQ (n : Nat) (fn : Func) (P : Program) (R : Value → World → Prop) : Exit → Frm → Pred → Prop
  | .ret, g, S | .normal, g, S => ∃ v, (∀ a w, Fits n g a → S w → (results fn a.tmps).run P w = .ok v w) ∧ ∀ w, S w → R v w
  | _, _, _ => False
/-- The arguments as they lie in the first slots. -/
def argFrm : Nat → List Value → Frm
  | _, [] => []
  | i, v :: vs => (i, v) :: argFrm (i + 1) vs
theorem look_argFrm : ∀ (vs : List Value) (i t : Nat) (v : Value), look (argFrm i vs) t = some v → i ≤ t ∧ vs[t - i]? = some v
  | [], _, _, _, h => by cases h
  | x :: vs, i, t, v, h => by
    rw [argFrm, look_cons] at h
    split at h
    · rename_i e; subst e; cases h; exact ⟨Nat.le_refl _, by simp⟩
    · rename_i e
      obtain ⟨h1, h2⟩ := look_argFrm vs (i + 1) t v h
      refine ⟨by omega, ?_⟩
      have : t - i = (t - (i + 1)) + 1 := by omega
      rw [this]
      simpa using h2
theorem calls_of {P : Program} {f : FuncId} {fn : Func} {c : Code} {vs : List Value} {w : World} {R : Value → World → Prop} (S : Pred) (hs : S w)
    (hf : P.funcs[f]? = some fn) (hb : fn.body = some c) (n : Nat) (hnt : fn.ntmps = n) (hn : Nat.ble vs.length n = true) (h : WP P n c (argFrm 0 vs) S (retQ n fn P R)) :
    Calls P f vs.toArray w fun e w' => ∃ v, e = .returned v ∧ R v w' := by
  subst hnt
  have hn' : vs.length ≤ fn.ntmps := Nat.le_of_ble_eq_true hn
  have fits : Fits fn.ntmps (argFrm 0 vs) { tmps := vs.toArray ++ Array.replicate (fn.ntmps - vs.toArray.size) undef, defers := [] } := by
    refine ⟨rfl, by simp; omega, fun t v e => ?_⟩
    have := (look_argFrm vs 0 t v e).2
    simp only [Nat.sub_zero] at this
    have hlt := (List.getElem?_eq_some_iff.1 this).1
    rw [Array.getElem?_append_left (by simpa using hlt)]
    simpa using this
  refine calls_of_wp hf hb (Code.wp_mono ?_ (h _ w fits hs))
  rintro e a w ⟨g', S', hf', hs', hq⟩
  cases e with
  | normal => obtain ⟨v, h1, h2⟩ := hq; exact ⟨hf'.defers, v, h1 a w hf' hs', v, rfl, h2 w hs'⟩
  | ret => obtain ⟨v, h1, h2⟩ := hq; exact ⟨hf'.defers, v, h1 a w hf' hs', v, rfl, h2 w hs'⟩
  | exit id => exact hq.elim
  | goto l => exact hq.elim
  | panic c => exact hq.elim
  | outgrown => exact hq.elim
end Go.Proofs.YtpigfknmlmeihaaDoor.W
