/- Our own calculus over the model's rules: frames as lists of slots, states of the world as predicates, regions in the order of their text. A general text: it names no program. -/
import Derived.WalkKit
import Derived.Deep.Quiet
import Derived.RangeFuncLeaves
import Derived.RangeFuncRecord
import Derived.RangeFuncCalls
import Derived.TacticsIn
import Derived.LoopNIn
set_option linter.unusedVariables false
set_option linter.unusedSectionVars false
namespace Go.Proofs.YtcgmhlakihjbkaaGreatDoor.W
open Go Go.RowKit

/-! ### Frames: what is known of the slots -/
abbrev Frm := List (Nat × Value)
def look : Frm → Nat → Option Value
  | [], _ => none
  | (k, v) :: g, t => bif Nat.beq k t then some v else look g t
/-- the place in a frame where it says which deferred calls there are: no slot of a function -/
abbrev markKey : Nat := 1000000007
def ev (g : Frm) : Operand → Option Value
  | .tmp t => bif Nat.beq t markKey then none else look g t
  | .const v => some v
  | .global n => some (.pointer (some ⟨n, 0, none⟩))
  | .func f => some (.func (.func f) #[] #[])
def Sub (g g' : Frm) : Prop := ∀ t v, look g t = some v → look g' t = some v
theorem Sub.refl (g : Frm) : Sub g g := fun _ _ h => h
theorem Sub.trans {a b c : Frm} (h : Sub a b) (k : Sub b c) : Sub a c := fun t v e => k t v (h t v e)
theorem Sub.nil (g : Frm) : Sub [] g := fun _ _ h => by cases h
theorem look_cons (k t : Nat) (v : Value) (g : Frm) : look ((k, v) :: g) t = if k = t then some v else look g t := by
  simp only [look]
  cases h : Nat.beq k t with
  | true => rw [if_pos (Nat.eq_of_beq_eq_true h)]; rfl
  | false => rw [if_neg (Nat.ne_of_beq_eq_false h)]; rfl
theorem Sub.cons {t : Nat} {v : Value} {g g' : Frm} (h : look g' t = some v) (k : Sub g g') : Sub ((t, v) :: g) g' := fun u x e => by
  rw [look_cons] at e
  split at e
  · rename_i h1; subst h1; cases e; exact h
  · exact k u x e
theorem Sub.cons' {t : Nat} {v u : Value} {g g' : Frm} (h : look g' t = some u) (e : u = v) (k : Sub g g') : Sub ((t, v) :: g) g' := Sub.cons (by rw [h, e]) k
theorem Sub.skip {t : Nat} {v : Value} {g g' : Frm} (h : look g t = none) (k : Sub g g') : Sub g ((t, v) :: g') := fun u x e => by
  rw [look_cons]
  split
  · rename_i h1; subst h1; rw [h] at e; cases e
  · exact k u x e
theorem Sub.over {t : Nat} {v : Value} {g g' : Frm} (k : Sub g g') : Sub ((t, v) :: g) ((t, v) :: g') := fun u x e => by
  rw [look_cons] at e ⊢
  split
  · rename_i h1; rw [if_pos h1] at e; exact e
  · rename_i h1; rw [if_neg h1] at e; exact k u x e

/-- the deferred calls that a frame says -/
def defersOf : Value → List Deferred
  | .int _ D => [{ target := .collected D.toNat, args := #[] }]
  | _ => []
structure Fits (n : Nat) (g : Frm) (a : Act) : Prop where
  marks : ∀ v, look g markKey = some v → a.defers = defersOf v
  size : a.tmps.size = n
  slots : ∀ t v, look g t = some v → t ≠ markKey → a.tmps[t]? = some v
theorem Fits.sub {n : Nat} {g g' : Frm} {a : Act} (h : Fits n g' a) (k : Sub g g') : Fits n g a := ⟨fun v e => h.marks v (k _ v e), h.size, fun t v e => h.slots t v (k t v e)⟩
theorem ev_tmp {g : Frm} {t : Nat} {v : Value} (e : ev g (.tmp t) = some v) : t ≠ markKey ∧ look g t = some v := by
  simp only [ev] at e
  cases h : Nat.beq t markKey with
  | true => rw [h] at e; cases e
  | false => rw [h] at e; exact ⟨Nat.ne_of_beq_eq_false h, e⟩
theorem Fits.eval {n : Nat} {g : Frm} {a : Act} (h : Fits n g a) {x : Operand} {v : Value} (e : ev g x = some v) : a.eval x = v := by
  cases x with
  | tmp t =>
    obtain ⟨h1, h2⟩ := ev_tmp e
    have := h.slots t v h2 h1
    simp only [Act.eval, Array.getD_eq_getD_getElem?, this, Option.getD_some]
  | const u => simpa [ev, Act.eval] using e
  | global i => simpa [ev, Act.eval] using e
  | func f => simpa [ev, Act.eval] using e
/-- a slot of the function -/
abbrev okDst (d n : Nat) : Bool := Nat.blt d n && !(Nat.beq d markKey)
theorem Fits.put {n : Nat} {g : Frm} {a : Act} (h : Fits n g a) {d : Nat} (hd : okDst d n = true) (v : Value) : Fits n ((d, v) :: g) (a.put (some d) v) := by
  obtain ⟨hd1, hd2⟩ := Bool.and_eq_true_iff.1 hd
  have hd' : d < n := by simpa [Nat.blt_eq] using hd1
  have hdm : d ≠ markKey := fun e => by rw [e] at hd2; simp at hd2
  refine ⟨fun u e => h.marks u (by rw [look_cons, if_neg hdm] at e; exact e), by simp [Act.put, h.size], fun t u e ht => ?_⟩
  rw [look_cons] at e
  simp only [Act.put, Array.getElem?_setIfInBounds]
  split at e
  · rename_i h1; subst h1; cases e; rw [if_pos rfl, if_pos (by rw [h.size]; exact hd')]
  · rename_i h1; rw [if_neg h1]; exact h.slots t u e ht
/-! ### Code -/
abbrev Pred := World → Prop
/-- the fences that we use: none, and a round's -/
class Free (F : Fence) : Prop where
  out : F = Fence.wide ∨ ∃ l, F = Fence.wide.inRound l
/-- outside a round -/
class Wide (F : Fence) : Prop where
  out : Fence.wide = F
instance : Wide Fence.wide := ⟨rfl⟩
instance : Free Fence.wide := ⟨.inl rfl⟩
instance (l : Nat) : Free (Fence.wide.inRound l) := ⟨.inr ⟨l, rfl⟩⟩
theorem Free.fn {F : Fence} [h : Free F] (f : FuncId) : F.fn f := by
  rcases h.out with rfl | ⟨l, rfl⟩ <;> trivial
theorem Free.depth {F : Fence} [h : Free F] : F.depth = none := by
  rcases h.out with rfl | ⟨l, rfl⟩ <;> rfl
theorem Free.calls {F : Fence} [h : Free F] {n : Nat} {P : Program} {f : FuncId} {args : Array Value} {w : World} {R : Ending → World → Prop} (k : Calls P f args w R) : CallsIn F n P f args w R := by
  rcases h.out with rfl | ⟨l, rfl⟩
  · exact callsIn_wide.2 k
  · exact CallsIn.inRound l (callsIn_wide.2 k)
theorem Free.steps {F : Fence} [h : Free F] {P : Program} {m m' : Machine} (k : Steps P m m') : StepsIn (Machine.fenced P F) P m m' := by
  have hw : ∀ m : Machine, m.fenced P F := fun m => by
    rcases h.out with rfl | ⟨l, rfl⟩
    · exact fenced_wide P m
    · rw [fenced_inRound]; exact fenced_wide P m
  exact (StepsIn.of_steps k).mono (fun m _ => hw m)
theorem Free.rows {F : Fence} [h : Free F] {n : Nat} {P : Program} {row : String} {args : Array Value} {w : World} {R : Value → World → Prop} (k : Rows P row args w R) : RowsIn F n P row args w R := fun c cs _ =>
  let ⟨v, w', r, s⟩ := k c cs
  ⟨v, w', r, Free.steps s⟩
def WP (F : Fence) (P : Program) (n : Nat) (c : Code) (g : Frm) (S : Pred) (Q : Exit → Frm → Pred → Prop) : Prop :=
  ∀ a w, Fits n g a → S w → c.wpIn F 0 P (fun e a' w' => ∃ g' S', Fits n g' a' ∧ S' w' ∧ Q e g' S') a w
section
variable {F : Fence} [Free F] {P : Program} {n : Nat} {g : Frm} {S : Pred} {Q : Exit → Frm → Pred → Prop}
def thenQ (K : Frm → Pred → Prop) (Q : Exit → Frm → Pred → Prop) : Exit → Frm → Pred → Prop
  | .normal => K
  | e => Q e
def inBlockQ (id : Nat) (Q : Exit → Frm → Pred → Prop) : Exit → Frm → Pred → Prop
  | .exit j => bif Nat.beq j id then Q .normal else Q (.exit j)
  | e => Q e
theorem then_normal {K : Frm → Pred → Prop} (h : K g S) : thenQ K Q .normal g S := h
theorem then_ret {K : Frm → Pred → Prop} (h : Q .ret g S) : thenQ K Q .ret g S := h
theorem then_exit {K : Frm → Pred → Prop} {id : Nat} (h : Q (.exit id) g S) : thenQ K Q (.exit id) g S := h
theorem block_normal {id : Nat} (h : Q .normal g S) : inBlockQ id Q .normal g S := h
theorem block_ret {id : Nat} (h : Q .ret g S) : inBlockQ id Q .ret g S := h
theorem block_here {id : Nat} (h : Q .normal g S) : inBlockQ id Q (.exit id) g S := by
  simp only [inBlockQ]
  rw [show Nat.beq id id = true by simp]
  exact h
theorem WP.sub {c : Code} {g₁ : Frm} (k : Sub g₁ g) (h : WP F P n c g₁ S Q) : WP F P n c g S Q := fun a w f s => h a w (f.sub k) s
theorem WP.weaken {c : Code} {S₁ : Pred} (k : ∀ w, S w → S₁ w) (h : WP F P n c g S₁ Q) : WP F P n c g S Q := fun a w f s => h a w f (k w s)
theorem WP.mono {c : Code} {Q' : Exit → Frm → Pred → Prop} (k : ∀ e g S, Q e g S → Q' e g S) (h : WP F P n c g S Q) : WP F P n c g S Q' := fun a w f s =>
  Code.wpIn_mono (fun _ _ _ ⟨g', S', hf, hs, hq⟩ => ⟨g', S', hf, hs, k _ _ _ hq⟩) (h a w f s)
theorem WP.seq {x y : Code} (h : WP F P n x g S (thenQ (fun g' S' => WP F P n y g' S' Q) Q)) : WP F P n (.seq x y) g S Q := fun a w f s => by
  refine wpIn_seq (Code.wpIn_mono (fun e a' w' ⟨g', S', hf, hs, hq⟩ => ?_) (h a w f s))
  cases e with
  | normal => exact hq a' w' hf hs
  | exit id => exact ⟨g', S', hf, hs, hq⟩
  | goto l => exact ⟨g', S', hf, hs, hq⟩
  | ret => exact ⟨g', S', hf, hs, hq⟩
  | panic c => exact ⟨g', S', hf, hs, hq⟩
  | outgrown => exact ⟨g', S', hf, hs, hq⟩
theorem WP.seq_join {x y : Code} (J : Frm → Pred → Prop) (h : WP F P n x g S (thenQ J Q)) (k : ∀ g' S', J g' S' → WP F P n y g' S' Q) : WP F P n (.seq x y) g S Q :=
  WP.seq (h.mono fun e g' S' hq => by cases e <;> first | exact hq | exact k g' S' hq)
theorem WP.skip (h : Q .normal g S) : WP F P n .skip g S Q := fun _ _ f s => wpIn_skip ⟨g, S, f, s, h⟩
theorem WP.ret (h : Q .ret g S) : WP F P n .ret g S Q := fun _ _ f s => wpIn_ret ⟨g, S, f, s, h⟩
theorem WP.exit {id : Nat} (h : Q (.exit id) g S) : WP F P n (.exit id) g S Q := fun _ _ f s => wpIn_exit ⟨g, S, f, s, h⟩
theorem WP.block {id : Nat} {c : Code} (h : WP F P n c g S (inBlockQ id Q)) : WP F P n (.block id c) g S Q := fun a w f s => by
  refine wpIn_block (Code.wpIn_mono (fun e a' w' ⟨g', S', hf, hs, hq⟩ => ?_) (h a w f s))
  cases e with
  | normal => exact ⟨g', S', hf, hs, hq⟩
  | exit j =>
    simp only [inBlockQ] at hq
    simp only [Exit.inBlock]
    cases hb : Nat.beq j id with
    | true =>
      have hj := Nat.eq_of_beq_eq_true hb
      subst hj
      rw [hb] at hq
      rw [if_pos rfl]
      exact ⟨g', S', hf, hs, hq⟩
    | false =>
      have hj := Nat.ne_of_beq_eq_false hb
      rw [hb] at hq
      rw [if_neg hj]
      exact ⟨g', S', hf, hs, hq⟩
  | goto l => exact ⟨g', S', hf, hs, hq⟩
  | ret => exact ⟨g', S', hf, hs, hq⟩
  | panic c => exact ⟨g', S', hf, hs, hq⟩
  | outgrown => exact ⟨g', S', hf, hs, hq⟩
theorem WP.cond {c : Operand} {x y : Code} {b : Bool} (hc : ev g c = some (.bool b)) (ht : b = true → WP F P n x g S Q) (hf : b = false → WP F P n y g S Q) : WP F P n (.cond c x y) g S Q := fun a w f s =>
  wpIn_cond (f.eval hc) (by cases b with
    | true => exact ht rfl a w f s
    | false => exact hf rfl a w f s)
theorem WP.cond_true {c : Operand} {x y : Code} (hc : ev g c = some (.bool true)) (h : WP F P n x g S Q) : WP F P n (.cond c x y) g S Q := WP.cond hc (fun _ => h) (fun h => by cases h)
theorem WP.cond_false {c : Operand} {x y : Code} (hc : ev g c = some (.bool false)) (h : WP F P n y g S Q) : WP F P n (.cond c x y) g S Q := WP.cond hc (fun h => by cases h) (fun _ => h)

theorem wpIn_loop_fuel {c : Code} {Q : Exit → Act → World → Prop} (I : Nat → Act → World → Prop) (fuel : Nat) {a : Act} {w : World} (h₀ : I fuel a w)
    (round : ∀ m a w, I m a w → c.wpIn F 0 P (Exit.then (fun a' w' => ∃ m', m' < m ∧ I m' a' w') Q) a w) : (Code.loop c).wpIn F 0 P Q a w := by
  intro b k cs hro hb hr
  have key : ∀ m a w, I m a w → ∃ e a' w', Q e a' w' ∧ ArrivesIn (Machine.fenced P F) P (lone (b.atR a (.code c :: .inLoop c :: k)) cs w) b k cs e a' w' := by
    intro m
    induction m using Nat.strongRecOn with
    | _ m ih =>
      intro a w hI
      obtain ⟨e, a₁, w₁, hq, harr⟩ := round m a w hI b (.inLoop c :: k) cs hro hb hr
      cases e with
      | normal =>
        obtain ⟨m', hlt, hI₁⟩ := hq
        obtain ⟨e₂, a₂, w₂, hq₂, harr₂⟩ := ih m' hlt a₁ w₁ hI₁
        exact ⟨e₂, a₂, w₂, hq₂, .of_steps (StepsIn.trans harr (.one (fenced_calm hb hr rfl) stepR_inLoop)) harr₂⟩
      | exit id => exact ⟨_, a₁, w₁, hq, .pass (x := .inLoop c) rfl (fun _ _ => .inl (by simp)) harr⟩
      | goto l => exact ⟨_, a₁, w₁, hq, .pass (x := .inLoop c) rfl (fun _ _ => .inl (by simp)) harr⟩
      | ret => exact ⟨_, a₁, w₁, hq, .pass (x := .inLoop c) rfl (fun _ _ => .inl (by simp)) harr⟩
      | panic ch => exact ⟨_, a₁, w₁, hq, .pass (x := .inLoop c) rfl (fun _ _ => .inl (by simp)) harr⟩
      | outgrown => exact ⟨_, a₁, w₁, hq, .pass (x := .inLoop c) rfl (fun _ _ => .inl (by simp)) harr⟩
  obtain ⟨e, a', w', hq, harr⟩ := key _ a w h₀
  exact ⟨e, a', w', hq, .of_steps (.one (fenced_calm hb hr rfl) stepR_loop) harr⟩

/-- A loop: the relation takes the fuel that is left, the frame, the state. -/
theorem WP.loop {c : Code} (I : Nat → Frm → Pred → Prop) (fuel : Nat) (h : I fuel g S) (zero : ∀ g S, I 0 g S → False)
    (step : ∀ m g S, I (m + 1) g S → WP F P n c g S (thenQ (fun g' S' => I m g' S') Q)) : WP F P n (.loop c) g S Q := fun a w f s => by
  refine wpIn_loop_fuel (fun m a w => ∃ g S, Fits n g a ∧ S w ∧ I m g S) fuel ⟨g, S, f, s, h⟩ (fun m a w ⟨g, S, f, s, hI⟩ => ?_)
  cases m with
  | zero => exact (zero g S hI).elim
  | succ m =>
    refine Code.wpIn_mono (fun e a' w' ⟨g', S', hf, hs, hq⟩ => ?_) (step m g S hI a w f s)
    cases e with
    | normal => exact ⟨m, Nat.lt_succ_self m, g', S', hf, hs, hq⟩
    | exit id => exact ⟨g', S', hf, hs, hq⟩
    | goto l => exact ⟨g', S', hf, hs, hq⟩
    | ret => exact ⟨g', S', hf, hs, hq⟩
    | panic c => exact ⟨g', S', hf, hs, hq⟩
    | outgrown => exact ⟨g', S', hf, hs, hq⟩
end

/-! ### Regions -/
def WL (F : Fence) (P : Program) (n : Nat) (ops : Array Oper) (l : List Oper) (g : Frm) (S : Pred) (K : Frm → Pred → Prop) : Prop :=
  ∀ a w, Fits n g a → S w → ∀ Q : Exit → Act → World → Prop, (∀ g' S' a' w', K g' S' → Fits n g' a' → S' w' → Q .normal a' w') → wpListIn F 0 P ops Q l a w
def QL (P : Program) (n : Nat) (ops : Array Oper) (S : Pred) (l : List Oper) (g : Frm) (J : Frm → Prop) : Prop :=
  ∀ a, Fits n g a → ∀ Q : Act → Prop, (∀ g' a', J g' → Fits n g' a' → Q a') → wpQuiet P ops S Q l a
/-- One operation, in every world of the state: it yields v and leaves the state. -/
def OQ (P : Program) (n : Nat) (o : Oper) (g : Frm) (S : Pred) (v : Value) : Prop :=
  ∀ a w, Fits n g a → S w → Oper.quietUpon P S w v ((execOp a.eval o).run P w)
section
variable {F : Fence} [Free F] {P : Program} {n : Nat} {g : Frm} {S : Pred} {K : Frm → Pred → Prop} {J : Frm → Prop} {ops : Array Oper} {l : List Oper} {o : Oper}
/-- what an operation does outside a round it does in a round -/
theorem Oper.wpIn_of {a : Act} {w : World} {next : Act → World → Prop} {Q : Exit → Act → World → Prop} (h : o.wp P a w (fun a' w' => a'.defers = a.defers ∧ next a' w') Q) : o.wpIn F 0 P a w next Q := by
  refine ⟨fun f _ => Free.fn f, ?_⟩
  unfold Oper.wp at h
  have hs : (o.semAt F.round a.eval).run P w = (execOp a.eval o).run P w := by
    by_cases hd : ∃ c, o.op = .defer c
    · obtain ⟨c, hc⟩ := hd
      cases hF : F.round with
      | none => rw [Oper.semAt_none]
      | some l =>
        have e1 : execOp a.eval o = (do pure (.defer (← resolve a.eval c o.type))) := by simp [execOp, hc]
        have e2 : o.semAt (some l) a.eval = (do Instr.deferInRound l (← resolve a.eval c o.type); pure .skip) := by simp [Oper.semAt, hc]
        rw [e1] at h ⊢
        rw [e2]
        simp only [Sem.run_bind] at h ⊢
        cases hr : (resolve a.eval c o.type).run P w with
        | ok d w' =>
          rw [hr] at h
          simp only [Result.andThen_ok, Sem.run_pure, Oper.upon] at h
          have := congrArg List.length h.1
          cases hdst : o.dst <;> (rw [hdst] at this; simp [Act.put] at this)
        | halt x w' => rfl
    · rw [Oper.semAt_eq _ _ _ (fun c hc => hd ⟨c, hc⟩)]
  rw [hs]
  generalize (execOp a.eval o).run P w = r at h ⊢
  cases r with
  | ok x w' =>
    cases x <;> simp only [Oper.upon] at h <;> simp only [Oper.uponIn]
    case value u => exact h.2
    case skip => exact h.2
    case defer d => exact h.2
    case enter f args =>
      refine ⟨fun q => (by rw [Free.depth] at q; cases q), Free.calls (Calls.mono h fun e w'' he => ?_)⟩
      cases e with
      | returned v => exact he.2
      | panicked c => exact he
      | outgrown => exact he
    case row row args => exact ⟨fun q => (by rw [Free.depth] at q; cases q), Free.rows (Rows.mono h fun u w'' he => he.2)⟩
  | halt x w' =>
    cases x <;> simp only [Oper.upon] at h <;> simp only [Oper.uponIn]
    case panic u => exact h
theorem WL.nil (h : K g S) : WL F P n ops [] g S K := fun _ _ f s _ hQ => hQ g S _ _ h f s
theorem QL.nil (h : J g) : QL P n ops S [] g J := fun _ f _ hQ => hQ g _ h f
theorem WL.sub {g₁ : Frm} (k : Sub g₁ g) (h : WL F P n ops l g₁ S K) : WL F P n ops l g S K := fun a w f s => h a w (f.sub k) s
theorem WL.weaken {S₁ : Pred} (k : ∀ w, S w → S₁ w) (h : WL F P n ops l g S₁ K) : WL F P n ops l g S K := fun a w f s => h a w f (k w s)
theorem QL.sub {g₁ : Frm} (k : Sub g₁ g) (h : QL P n ops S l g₁ J) : QL P n ops S l g J := fun a f => h a (f.sub k)
theorem QL.mono {J' : Frm → Prop} (k : ∀ g, J g → J' g) (h : QL P n ops S l g J) : QL P n ops S l g J' := fun a f Q hQ => h a f Q (fun g' a' j f' => hQ g' a' (k g' j) f')

theorem OQ.wp {v : Value} (h : OQ P n o g S v) {a : Act} {w : World} (f : Fits n g a) (s : S w) {K : Act → World → Prop} {Q : Exit → Act → World → Prop} (hk : ∀ w', S w' → K (a.put o.dst v) w') : o.wp P a w K Q := by
  have h3 := h a w f s
  unfold Oper.wp
  generalize (execOp a.eval o).run P w = r at *
  cases r with
  | ok x w' =>
    cases x <;> simp only [Oper.quietUpon] at h3 <;> simp only [Oper.upon]
    case value u => obtain ⟨e1, e2⟩ := h3; rw [e1, e2]; exact hk _ s
    case skip => obtain ⟨e1, e2⟩ := h3; rw [e1, ← e2]; exact hk _ s
    case enter f args => obtain ⟨e1, hc⟩ := h3; rw [e1]; exact hc.mono fun e w'' ⟨he, hw''⟩ => by subst he; exact hk _ hw''
  | halt x w' => simp only [Oper.quietUpon] at h3

theorem OQ.wpd {v : Value} (h : OQ P n o g S v) {a : Act} {w : World} (f : Fits n g a) (s : S w) {K : Act → World → Prop} {Q : Exit → Act → World → Prop} (hk : ∀ w', S w' → K (a.put o.dst v) w') : o.wpIn F 0 P a w K Q :=
  Oper.wpIn_of (h.wp f s fun w' s' => ⟨by cases o.dst <;> rfl, hk w' s'⟩)
theorem wpList_do {Q : Exit → Act → World → Prop} {a : Act} {w : World} (hw : Region.wanted o (yielded ops a.tmps) = true) (h : o.wpIn F 0 P a w (wpListIn F 0 P ops Q l) Q) : wpListIn F 0 P ops Q (o :: l) a w := by
  unfold wpListIn
  rw [if_pos hw]
  exact h
theorem wpList_pass {Q : Exit → Act → World → Prop} {a : Act} {w : World} (hw : Region.wanted o (yielded ops a.tmps) = false) (h : wpListIn F 0 P ops Q l (a.put o.dst undef) w) : wpListIn F 0 P ops Q (o :: l) a w := by
  unfold wpListIn
  rw [if_neg (by simp [hw])]
  exact ⟨fun f _ => Free.fn f, h⟩
theorem wanted_none (hg : o.guard = none) (y : Nat → Option Bool) : Region.wanted o y = true := by simp [Region.wanted, hg]
theorem yielded_of {a : Act} (f : Fits n g a) {j t : Nat} {b : Bool} (hj : ((ops[j]?).bind (·.dst)) = some t) (ht : ev g (.tmp t) = some (.bool b)) : yielded ops a.tmps j = some b := by
  simp [yielded, hj, f.slots t _ (ev_tmp ht).2 (ev_tmp ht).1]
theorem wanted_yes {a : Act} (f : Fits n g a) {j t : Nat} {b c : Bool} (hg : o.guard = some (j, b)) (hj : ((ops[j]?).bind (·.dst)) = some t) (ht : ev g (.tmp t) = some (.bool c)) (hc : c = b) : Region.wanted o (yielded ops a.tmps) = true := by
  subst hc
  simp [Region.wanted, hg, yielded_of f hj ht]
theorem wanted_no {a : Act} (f : Fits n g a) {j t : Nat} {b c : Bool} (hg : o.guard = some (j, b)) (hj : ((ops[j]?).bind (·.dst)) = some t) (ht : ev g (.tmp t) = some (.bool c)) (hc : c = !b) : Region.wanted o (yielded ops a.tmps) = false := by
  subst hc
  simp [Region.wanted, hg, yielded_of f hj ht]
theorem wanted_undef {a : Act} (f : Fits n g a) {j t : Nat} {b : Bool} (hg : o.guard = some (j, b)) (hj : ((ops[j]?).bind (·.dst)) = some t) (ht : ev g (.tmp t) = some undef) : Region.wanted o (yielded ops a.tmps) = false := by
  have : yielded ops a.tmps j = none := by simp [yielded, hj, f.slots t _ (ev_tmp ht).2 (ev_tmp ht).1, undef]
  simp [Region.wanted, hg, this]

/-- is this operation carried out in this frame? -/
def Runs (n : Nat) (ops : Array Oper) (g : Frm) (o : Oper) : Prop := ∀ a, Fits n g a → Region.wanted o (yielded ops a.tmps) = true
def Idle (n : Nat) (ops : Array Oper) (g : Frm) (o : Oper) : Prop := ∀ a, Fits n g a → Region.wanted o (yielded ops a.tmps) = false
theorem Runs.free (hg : o.guard = none) : Runs n ops g o := fun _ _ => wanted_none hg _
theorem Runs.yes {L : List Oper} {j t : Nat} {b c : Bool} (hg : o.guard = some (j, b)) (hj : ((L[j]?).bind (·.dst)) = some t) (ht : ev g (.tmp t) = some (.bool c)) (hc : c = b) : Runs n L.toArray g o := fun _ f => wanted_yes f hg (by simpa using hj) ht hc
theorem Idle.no {L : List Oper} {j t : Nat} {b c : Bool} (hg : o.guard = some (j, b)) (hj : ((L[j]?).bind (·.dst)) = some t) (ht : ev g (.tmp t) = some (.bool c)) (hc : c = !b) : Idle n L.toArray g o := fun _ f => wanted_no f hg (by simpa using hj) ht hc
theorem Idle.undef {L : List Oper} {j t : Nat} {b : Bool} (hg : o.guard = some (j, b)) (hj : ((L[j]?).bind (·.dst)) = some t) (ht : ev g (.tmp t) = some undef) : Idle n L.toArray g o := fun _ f => wanted_undef f hg (by simpa using hj) ht

theorem WL.quiet {d : Nat} {v : Value} (hr : Runs n ops g o) (hd : o.dst = some d) (hn : okDst d n = true) (h : OQ P n o g S v) (k : WL F P n ops l ((d, v) :: g) S K) : WL F P n ops (o :: l) g S K := fun a w f s Q hQ =>
  wpList_do (hr a f) (h.wpd f s fun w' s' => k _ w' (by rw [hd]; exact f.put hn v) s' Q hQ)
theorem WL.idle {d : Nat} (hr : Idle n ops g o) (hd : o.dst = some d) (hn : okDst d n = true) (k : WL F P n ops l ((d, undef) :: g) S K) : WL F P n ops (o :: l) g S K := fun a w f s Q hQ =>
  wpList_pass (hr a f) (k _ w (by rw [hd]; exact f.put hn undef) s Q hQ)
theorem QL.quiet {d : Nat} {v : Value} (hr : Runs n ops g o) (hd : o.dst = some d) (hn : okDst d n = true) (h : OQ P n o g S v) (k : QL P n ops S l ((d, v) :: g) J) : QL P n ops S (o :: l) g J := fun a f Q hQ => by
  unfold wpQuiet
  rw [if_pos (hr a f)]
  exact ⟨v, fun w s => h a w f s, k _ (by rw [hd]; exact f.put hn v) Q hQ⟩
theorem QL.idle {d : Nat} (hr : Idle n ops g o) (hd : o.dst = some d) (hn : okDst d n = true) (k : QL P n ops S l ((d, undef) :: g) J) : QL P n ops S (o :: l) g J := fun a f Q hQ => by
  unfold wpQuiet
  rw [if_neg (by rw [hr a f]; simp)]
  exact k _ (by rw [hd]; exact f.put hn undef) Q hQ

theorem wpQuiet_append {Q : Act → Prop} : ∀ (l r : List Oper) (a : Act), wpQuiet P ops S (fun a' => wpQuiet P ops S Q r a') l a → wpQuiet P ops S Q (l ++ r) a
  | [], _, _, hh => hh
  | o :: l, r, a, hh => by
    show wpQuiet P ops S Q (o :: (l ++ r)) a
    unfold wpQuiet at *
    split
    · rename_i hw; rw [if_pos hw] at hh; obtain ⟨v, h1, h2⟩ := hh; exact ⟨v, h1, wpQuiet_append l r _ h2⟩
    · rename_i hw; rw [if_neg hw] at hh; exact wpQuiet_append l r _ hh
theorem wpList_of_quiet {Q : Exit → Act → World → Prop} {r : List Oper} : ∀ (l : List Oper) (a : Act) (w : World), S w → wpQuiet P ops S (fun a' => ∀ w', S w' → wpListIn F 0 P ops Q r a' w') l a → wpListIn F 0 P ops Q (l ++ r) a w
  | [], _, w, s, hh => hh w s
  | o :: l, a, w, s, hh => by
    show wpListIn F 0 P ops Q (o :: (l ++ r)) a w
    unfold wpQuiet at hh
    by_cases hw : Region.wanted o (yielded ops a.tmps) = true
    · rw [if_pos hw] at hh
      obtain ⟨v, hv, hk⟩ := hh
      exact wpList_do hw (Oper.wpIn_of (Oper.wp_of_quiet (K := fun a' => a'.defers = a.defers ∧ wpQuiet P ops S (fun a' => ∀ w', S w' → wpListIn F 0 P ops Q r a' w') l a') s (fun a' w' s' h' => ⟨h'.1, wpList_of_quiet l a' w' s' h'.2⟩) ⟨v, hv, by cases o.dst <;> rfl, hk⟩))
    · rw [if_neg hw] at hh
      exact wpList_pass (by simpa using hw) (wpList_of_quiet l _ w s hh)
/-- A part of a region that is quiet is walked by itself; what follows, once, from whatever J says. -/
theorem WL.part (k : Nat) (h : QL P n ops S (l.take k) g J) (h' : ∀ g', J g' → WL F P n ops (l.drop k) g' S K) : WL F P n ops l g S K := fun a w f s Q hQ => by
  rw [← List.take_append_drop k l]
  exact wpList_of_quiet _ a w s (h a f _ fun g' a' j f' w' s' => h' g' j a' w' f' s' Q hQ)
theorem QL.part {J' : Frm → Prop} (k : Nat) (h : QL P n ops S (l.take k) g J') (h' : ∀ g', J' g' → QL P n ops S (l.drop k) g' J) : QL P n ops S l g J := fun a f Q hQ => by
  rw [← List.take_append_drop k l]
  exact wpQuiet_append _ _ a (h a f _ fun g' a' j f' => h' g' j a' f' Q hQ)
theorem wp_then {o : Oper} {a : Act} {w : World} {next next' K : Act → World → Prop} {Q : Exit → Act → World → Prop} (hn : ∀ a w, next a w → next' a w) (h : o.wpIn F 0 P a w next (Exit.then K Q)) : o.wpIn F 0 P a w next' Q := by
  refine ⟨h.1, ?_⟩
  have h := h.2
  generalize (o.semAt F.round a.eval).run P w = r at *
  cases r with
  | ok x w' =>
    cases x <;> simp only [Oper.uponIn] at h ⊢
    case value u => exact hn _ _ h
    case skip => exact hn _ _ h
    case defer d => exact hn _ _ h
    case enter f args =>
      refine ⟨h.1, CallsIn.mono h.2 fun e w'' he => ?_⟩
      cases e with
      | returned v => exact hn _ _ he
      | panicked c => exact he
      | outgrown => exact he
    case row row args => exact ⟨h.1, RowsIn.mono h.2 fun u w'' he => hn _ _ he⟩
    case round l f tmps assign body =>
      refine ⟨h.1, RoundIn.mono h.2 fun e w'' he => ?_⟩
      cases e with
      | returned v => exact hn _ _ he
      | panicked c => exact he
      | outgrown => exact he
  | halt x w' =>
    cases x <;> simp only [Oper.uponIn] at h ⊢
    case panic u => exact h
theorem wpList_cut {Q : Exit → Act → World → Prop} {r : List Oper} : ∀ (l : List Oper) (a : Act) (w : World), wpListIn F 0 P ops (Exit.then (fun a' w' => wpListIn F 0 P ops Q r a' w') Q) l a w → wpListIn F 0 P ops Q (l ++ r) a w
  | [], _, _, h => h
  | o :: l, a, w, h => by
    show wpListIn F 0 P ops Q (o :: (l ++ r)) a w
    unfold wpListIn at h ⊢
    split
    · rename_i hw
      rw [if_pos hw] at h
      exact wp_then (fun a' w' h' => wpList_cut l a' w' h') h
    · rename_i hw
      rw [if_neg hw] at h
      exact ⟨h.1, wpList_cut l _ w h.2⟩
/-- A part of a region by itself; what follows, once. -/
theorem WL.cut (k : Nat) {J : Frm → Pred → Prop} (h : WL F P n ops (l.take k) g S J) (h' : ∀ g' S', J g' S' → WL F P n ops (l.drop k) g' S' K) : WL F P n ops l g S K := fun a w f s Q hQ => by
  rw [← List.take_append_drop k l]
  exact wpList_cut _ a w (h a w f s _ fun g' S' a' w' j f' s' => h' g' S' j a' w' f' s' Q hQ)
theorem WL.cut_bool (k d : Nat) {x : Bool} (h : WL F P n ops (l.take k) g S fun g' S' => Sub ((d, .bool x) :: g) g' ∧ ∀ w, S' w → S w) (h' : WL F P n ops (l.drop k) ((d, .bool x) :: g) S K) : WL F P n ops l g S K :=
  WL.cut k h fun g' S' ⟨h1, h2⟩ => WL.sub h1 (WL.weaken h2 h')
theorem QL.part_bool (k d : Nat) {x : Bool} (h : QL P n ops S (l.take k) g fun g' => Sub ((d, .bool x) :: g) g') (h' : QL P n ops S (l.drop k) ((d, .bool x) :: g) J) : QL P n ops S l g J :=
  QL.part k h fun g' h1 => QL.sub h1 h'
theorem guard_eq {x : Operand} {c b : Bool} (h : ev g x = some (.bool c)) (hc : c = b) : ev g x = some (.bool b) := by rw [h, hc]

theorem WP.region {Q : Exit → Frm → Pred → Prop} {id : Nat} {l : List Oper} (h : WL F P n l.toArray l g S fun g' S' => Q .normal g' S') : WP F P n (.region id l.toArray false) g S Q := fun a w f s =>
  wpIn_region_lit (h a w f s _ fun g' S' _ _ hq hf hs => ⟨g', S', hf, hs, hq⟩)
theorem WP.region_draws [hw : Wide F] {Q : Exit → Frm → Pred → Prop} {id : Nat} {l : List Oper} (hm : P.follows .mixedOrders = true) (hB : Region.lexB .any l.toArray = true) (hd : ∀ w, S w → S w.drew)
    (h : QL P n l.toArray S l g fun g' => Q .normal g' S) : WP F P n (.region id l.toArray true) g S Q := fun a w f s =>
  hw.out ▸ wpIn_wide.2 (wp_region_quiet (C := S) hm hB (hd w s) (by
    have := h a f (fun a' => ∀ w', S w' → ∃ g' S', Fits n g' a' ∧ S' w' ∧ Q .normal g' S') (fun g' a' hq hf w' hs => ⟨g', S, hf, hs, hq⟩)
    simpa using this))
end

/-! ### A whole call -/
def retQ (n : Nat) (fn : Func) (P : Program) (R : Value → World → Prop) : Exit → Frm → Pred → Prop
  | .ret, g, S | .normal, g, S => ∃ (v : Value) (S' : Pred), ((look g markKey = some (.bool false) ∧ ∀ w, S w → S' w) ∨ ∃ D : Nat, look g markKey = some (.int .i64 D) ∧ ∀ w, S w → w.heap[D]? = some (.deferred (some [])) ∧ S' (w.putObj D (.deferred none))) ∧
      (∀ a w, Fits n g a → S' w → (results fn a.tmps).run P w = .ok v w) ∧ ∀ w, S' w → R v w
  | _, _, _ => False
/-- The arguments as they lie in the first slots. -/
def argFrm : Nat → List Value → Frm
  | _, [] => [(markKey, .bool false)]
  | i, v :: vs => (i, v) :: argFrm (i + 1) vs
theorem look_argFrm : ∀ (vs : List Value) (i t : Nat) (v : Value), t ≠ markKey → look (argFrm i vs) t = some v → i ≤ t ∧ vs[t - i]? = some v
  | [], _, t, _, hm, h => by
    rw [argFrm, look_cons, if_neg (fun e => hm e.symm)] at h
    cases h
  | x :: vs, i, t, v, hm, h => by
    rw [argFrm, look_cons] at h
    split at h
    · rename_i e; subst e; cases h; exact ⟨Nat.le_refl _, by simp⟩
    · rename_i e
      obtain ⟨h1, h2⟩ := look_argFrm vs (i + 1) t v hm h
      refine ⟨by omega, ?_⟩
      have : t - i = (t - (i + 1)) + 1 := by omega
      rw [this]
      simpa using h2
theorem mark_argFrm : ∀ (vs : List Value) (i : Nat), i + vs.length ≤ markKey → look (argFrm i vs) markKey = some (.bool false)
  | [], _, _ => by rw [argFrm, look_cons, if_pos rfl]
  | x :: vs, i, h => by
    rw [List.length_cons] at h
    rw [argFrm, look_cons, if_neg (by omega)]
    exact mark_argFrm vs (i + 1) (by omega)
theorem calls_of {P : Program} {f : FuncId} {fn : Func} {c : Code} {vs : List Value} {w : World} {R : Value → World → Prop} (S : Pred) (hs : S w)
    (hf : P.funcs[f]? = some fn) (hb : fn.body = some c) (n : Nat) (hnt : fn.ntmps = n) (hn : Nat.ble vs.length n = true) (h : WP Fence.wide P n c (argFrm 0 vs) S (retQ n fn P R)) (hm : Nat.ble vs.length markKey = true) :
    Calls P f vs.toArray w fun e w' => ∃ v, e = .returned v ∧ R v w' := by
  subst hnt
  have hn' : vs.length ≤ fn.ntmps := Nat.le_of_ble_eq_true hn
  have hm' : vs.length ≤ markKey := Nat.le_of_ble_eq_true hm
  have fits : Fits fn.ntmps (argFrm 0 vs) { tmps := vs.toArray ++ Array.replicate (fn.ntmps - vs.toArray.size) undef, defers := [] } := by
    refine ⟨fun v e => ?_, by simp; omega, fun t v e ht => ?_⟩
    · rw [mark_argFrm vs 0 (by omega)] at e
      cases e
      rfl
    · have := (look_argFrm vs 0 t v ht e).2
      simp only [Nat.sub_zero] at this
      have hlt := (List.getElem?_eq_some_iff.1 this).1
      rw [Array.getElem?_append_left (by simpa using hlt)]
      simpa using this
  refine (callsIn_wide (n := 0)).1 (callsIn_of_wp_marks hf hb trivial (Code.wpIn_mono ?_ (h _ w fits hs)))
  have leave : ∀ {g' : Frm} {S' : Pred} {a : Act} {w : World}, Fits fn.ntmps g' a → S' w → retQ fn.ntmps fn P R .ret g' S' → LeavesInM Fence.wide 0 P fn a.tmps (fun e w' => ∃ v, e = .returned v ∧ R v w') a.defers .returning w := by
    intro g' S' a w hf' hs' hq
    obtain ⟨v, S2, hcase, hres, hR⟩ := hq
    rcases hcase with ⟨h1, h2⟩ | ⟨D, h1, h2⟩
    · rw [hf'.marks _ h1]
      exact ⟨v, hres a w hf' (h2 w hs'), v, rfl, hR w (h2 w hs')⟩
    · rw [hf'.marks _ h1]
      obtain ⟨h3, h4⟩ := h2 w hs'
      refine ⟨by simp, .inl ⟨D, _, by simp, run_takeDeferred h3, ?_⟩⟩
      exact ⟨v, hres a _ hf' h4, v, rfl, hR _ h4⟩
  rintro e a w ⟨g', S', hf', hs', hq⟩
  cases e with
  | normal => exact leave hf' hs' hq
  | ret => exact leave hf' hs' hq
  | exit id => exact hq.elim
  | goto l => exact hq.elim
  | panic c => exact hq.elim
  | outgrown => exact hq.elim
end Go.Proofs.YtcgmhlakihjbkaaGreatDoor.W
