import Derived.WalkKit
import Derived.Deep.Quiet
import Derived.RangeFuncLeaves
import Derived.RangeFuncRecord
import Derived.RangeFuncCalls
import Derived.TacticsIn
import Derived.LoopNIn
import Derived.WalkLawsBesides
import Derived.OrdersHeld
import Derived.Laws.OwnMore
import Derived.Lib.ConvBytes
import Derived.Laws.IdiomStrings
import Derived.Laws.AppendOwn
set_option linter.unusedVariables false
set_option linter.unusedSectionVars false
set_option linter.unusedSimpArgs false
namespace Go.Proofs.YtkgijoddkibapaaGreatDoor.W
open Go Go.RowKit

abbrev Frm := List (Nat × Value)
def look : Frm → Nat → Option Value
 | [], _ => none
 | (k, v) :: g, t => bif Nat.beq k t then some v else look g t
abbrev markKey : Nat := 1000000007
def ev (g : Frm) : Operand → Option Value
 | .tmp t => bif Nat.beq t markKey then none else look g t
 | .const v => some v
 | .global n => some (.pointer (some ⟨n, 0, none⟩))
 | .func f => some (.func (.func f) #[] #[])
def Sub (g g' : Frm) : Prop := ∀ t v, look g t = some v → look g' t = some v
theorem Sub.refl (g : Frm) : Sub g g := fun _ _ h => h
theorem Sub.trans {a b c : Frm} (h : Sub a b) (k : Sub b c) : Sub a c := fun t v e => k t v (h t v e)
theorem Sub.nil (g : Frm) : Sub [] g := fun _ _ h => by cases h
theorem look_cons (k t : Nat) (v : Value) (g : Frm) : look ((k, v) :: g) t = if k = t then some v else look g t := by
 simp only [look]
 cases h : Nat.beq k t with
 | true => rw [if_pos (Nat.eq_of_beq_eq_true h)]; rfl
 | false => rw [if_neg (Nat.ne_of_beq_eq_false h)]; rfl
theorem Sub.cons {t : Nat} {v : Value} {g g' : Frm} (h : look g' t = some v) (k : Sub g g') : Sub ((t, v) :: g) g' := fun u x e => by
 rw [look_cons] at e
 split at e
 · rename_i h1; subst h1; cases e; exact h
 · exact k u x e
theorem Sub.cons' {t : Nat} {v u : Value} {g g' : Frm} (h : look g' t = some u) (e : u = v) (k : Sub g g') : Sub ((t, v) :: g) g' := Sub.cons (by rw [h, e]) k
theorem Sub.skip {t : Nat} {v : Value} {g g' : Frm} (h : look g t = none) (k : Sub g g') : Sub g ((t, v) :: g') := fun u x e => by
 rw [look_cons]
 split
 · rename_i h1; subst h1; rw [h] at e; cases e
 · exact k u x e
theorem Sub.over {t : Nat} {v : Value} {g g' : Frm} (k : Sub g g') : Sub ((t, v) :: g) ((t, v) :: g') := fun u x e => by
 rw [look_cons] at e ⊢
 split
 · rename_i h1; rw [if_pos h1] at e; exact e
 · rename_i h1; rw [if_neg h1] at e; exact k u x e

def defersOf : Value → List Deferred
 | .int _ D => [{ target := .collected D.toNat, args := #[] }]
 | .tuple vs => vs.toList.map fun v => { target := .collected (match v with | .int _ D => D.toNat | _ => 0), args := #[] }
 | _ => []
structure Fits (n : Nat) (g : Frm) (a : Act) : Prop where
 marks : ∀ v, look g markKey = some v → a.defers = defersOf v
 size : a.tmps.size = n
 slots : ∀ t v, look g t = some v → t ≠ markKey → a.tmps[t]? = some v
theorem Fits.sub {n : Nat} {g g' : Frm} {a : Act} (h : Fits n g' a) (k : Sub g g') : Fits n g a := ⟨fun v e => h.marks v (k _ v e), h.size, fun t v e => h.slots t v (k t v e)⟩
theorem ev_tmp {g : Frm} {t : Nat} {v : Value} (e : ev g (.tmp t) = some v) : t ≠ markKey ∧ look g t = some v := by
 simp only [ev] at e
 cases h : Nat.beq t markKey with
 | true => rw [h] at e; cases e
 | false => rw [h] at e; exact ⟨Nat.ne_of_beq_eq_false h, e⟩
theorem Fits.eval {n : Nat} {g : Frm} {a : Act} (h : Fits n g a) {x : Operand} {v : Value} (e : ev g x = some v) : a.eval x = v := by
 cases x with
 | tmp t =>
  obtain ⟨h1, h2⟩ := ev_tmp e
  have := h.slots t v h2 h1
  simp only [Act.eval, Array.getD_eq_getD_getElem?, this, Option.getD_some]
 | const u => simpa [ev, Act.eval] using e
 | global i => simpa [ev, Act.eval] using e
 | func f => simpa [ev, Act.eval] using e
abbrev okDst (d n : Nat) : Bool := Nat.blt d n && !(Nat.beq d markKey)
theorem Fits.put {n : Nat} {g : Frm} {a : Act} (h : Fits n g a) {d : Nat} (hd : okDst d n = true) (v : Value) : Fits n ((d, v) :: g) (a.put (some d) v) := by
 obtain ⟨hd1, hd2⟩ := Bool.and_eq_true_iff.1 hd
 have hd' : d < n := by simpa [Nat.blt_eq] using hd1
 have hdm : d ≠ markKey := fun e => by rw [e] at hd2; simp at hd2
 refine ⟨fun u e => h.marks u (by rw [look_cons, if_neg hdm] at e; exact e), by simp [Act.put, h.size], fun t u e ht => ?_⟩
 rw [look_cons] at e
 simp only [Act.put, Array.getElem?_setIfInBounds]
 split at e
 · rename_i h1; subst h1; cases e; rw [if_pos rfl, if_pos (by rw [h.size]; exact hd')]
 · rename_i h1; rw [if_neg h1]; exact h.slots t u e ht
abbrev Pred := World → Prop
class Free (F : Fence) : Prop where
 out : F = Fence.wide ∨ ∃ l, F = Fence.wide.inRound l
class Wide (F : Fence) : Prop where
 out : Fence.wide = F
instance : Wide Fence.wide := ⟨rfl⟩
instance : Free Fence.wide := ⟨.inl rfl⟩
instance (l : Nat) : Free (Fence.wide.inRound l) := ⟨.inr ⟨l, rfl⟩⟩
theorem Free.fn {F : Fence} [h : Free F] (f : FuncId) : F.fn f := by
 rcases h.out with rfl | ⟨l, rfl⟩ <;> trivial
theorem Free.depth {F : Fence} [h : Free F] : F.depth = none := by
 rcases h.out with rfl | ⟨l, rfl⟩ <;> rfl
theorem Free.calls {F : Fence} [h : Free F] {n : Nat} {P : Program} {f : FuncId} {args : Array Value} {w : World} {R : Ending → World → Prop} (k : Calls P f args w R) : CallsIn F n P f args w R := by
 rcases h.out with rfl | ⟨l, rfl⟩
 · exact callsIn_wide.2 k
 · exact CallsIn.inRound l (callsIn_wide.2 k)
theorem Free.steps {F : Fence} [h : Free F] {P : Program} {m m' : Machine} (k : Steps P m m') : StepsIn (Machine.fenced P F) P m m' := by
 have hw : ∀ m : Machine, m.fenced P F := fun m => by
  rcases h.out with rfl | ⟨l, rfl⟩
  · exact fenced_wide P m
  · rw [fenced_inRound]; exact fenced_wide P m
 exact (StepsIn.of_steps k).mono (fun m _ => hw m)
theorem Free.rows {F : Fence} [h : Free F] {n : Nat} {P : Program} {row : String} {args : Array Value} {w : World} {R : Value → World → Prop} (k : Rows P row args w R) : RowsIn F n P row args w R := fun c cs _ =>
 let ⟨v, w', r, s⟩ := k c cs
 ⟨v, w', r, Free.steps s⟩
def WP (F : Fence) (P : Program) (n : Nat) (c : Code) (g : Frm) (S : Pred) (Q : Exit → Frm → Pred → Prop) : Prop :=
 ∀ a w, Fits n g a → S w → c.wpIn F 0 P (fun e a' w' => ∃ g' S', Fits n g' a' ∧ S' w' ∧ Q e g' S') a w
section
variable {F : Fence} [Free F] {P : Program} {n : Nat} {g : Frm} {S : Pred} {Q : Exit → Frm → Pred → Prop}
def thenQ (K : Frm → Pred → Prop) (Q : Exit → Frm → Pred → Prop) : Exit → Frm → Pred → Prop
 | .normal => K
 | e => Q e
def inBlockQ (id : Nat) (Q : Exit → Frm → Pred → Prop) : Exit → Frm → Pred → Prop
 | .exit j => bif Nat.beq j id then Q .normal else Q (.exit j)
 | e => Q e
theorem then_normal {K : Frm → Pred → Prop} (h : K g S) : thenQ K Q .normal g S := h
theorem then_ret {K : Frm → Pred → Prop} (h : Q .ret g S) : thenQ K Q .ret g S := h
theorem then_exit {K : Frm → Pred → Prop} {id : Nat} (h : Q (.exit id) g S) : thenQ K Q (.exit id) g S := h
theorem block_normal {id : Nat} (h : Q .normal g S) : inBlockQ id Q .normal g S := h
theorem block_ret {id : Nat} (h : Q .ret g S) : inBlockQ id Q .ret g S := h
theorem block_here {id : Nat} (h : Q .normal g S) : inBlockQ id Q (.exit id) g S := by
 simp only [inBlockQ]
 rw [show Nat.beq id id = true by simp]
 exact h
theorem block_pass {id j : Nat} (hj : Nat.beq j id = false) (h : Q (.exit j) g S) : inBlockQ id Q (.exit j) g S := by
 simp only [inBlockQ]
 rw [hj]
 exact h
theorem WP.sub {c : Code} {g₁ : Frm} (k : Sub g₁ g) (h : WP F P n c g₁ S Q) : WP F P n c g S Q := fun a w f s => h a w (f.sub k) s
theorem WP.weaken {c : Code} {S₁ : Pred} (k : ∀ w, S w → S₁ w) (h : WP F P n c g S₁ Q) : WP F P n c g S Q := fun a w f s => h a w f (k w s)
theorem WP.mono {c : Code} {Q' : Exit → Frm → Pred → Prop} (k : ∀ e g S, Q e g S → Q' e g S) (h : WP F P n c g S Q) : WP F P n c g S Q' := fun a w f s =>
 Code.wpIn_mono (fun _ _ _ ⟨g', S', hf, hs, hq⟩ => ⟨g', S', hf, hs, k _ _ _ hq⟩) (h a w f s)
theorem WP.seq {x y : Code} (h : WP F P n x g S (thenQ (fun g' S' => WP F P n y g' S' Q) Q)) : WP F P n (.seq x y) g S Q := fun a w f s => by
 refine wpIn_seq (Code.wpIn_mono (fun e a' w' ⟨g', S', hf, hs, hq⟩ => ?_) (h a w f s))
 cases e with
 | normal => exact hq a' w' hf hs
 | exit id => exact ⟨g', S', hf, hs, hq⟩
 | goto l => exact ⟨g', S', hf, hs, hq⟩
 | ret => exact ⟨g', S', hf, hs, hq⟩
 | panic c => exact ⟨g', S', hf, hs, hq⟩
 | outgrown => exact ⟨g', S', hf, hs, hq⟩
theorem WP.seq_join {x y : Code} (J : Frm → Pred → Prop) (h : WP F P n x g S (thenQ J Q)) (k : ∀ g' S', J g' S' → WP F P n y g' S' Q) : WP F P n (.seq x y) g S Q :=
 WP.seq (h.mono fun e g' S' hq => by cases e <;> first | exact hq | exact k g' S' hq)
theorem WP.skip (h : Q .normal g S) : WP F P n .skip g S Q := fun _ _ f s => wpIn_skip ⟨g, S, f, s, h⟩
theorem WP.ret (h : Q .ret g S) : WP F P n .ret g S Q := fun _ _ f s => wpIn_ret ⟨g, S, f, s, h⟩
theorem WP.exit {id : Nat} (h : Q (.exit id) g S) : WP F P n (.exit id) g S Q := fun _ _ f s => wpIn_exit ⟨g, S, f, s, h⟩
theorem WP.block {id : Nat} {c : Code} (h : WP F P n c g S (inBlockQ id Q)) : WP F P n (.block id c) g S Q := fun a w f s => by
 refine wpIn_block (Code.wpIn_mono (fun e a' w' ⟨g', S', hf, hs, hq⟩ => ?_) (h a w f s))
 cases e with
 | normal => exact ⟨g', S', hf, hs, hq⟩
 | exit j =>
  simp only [inBlockQ] at hq
  simp only [Exit.inBlock]
  cases hb : Nat.beq j id with
  | true =>
   have hj := Nat.eq_of_beq_eq_true hb
   subst hj
   rw [hb] at hq
   rw [if_pos rfl]
   exact ⟨g', S', hf, hs, hq⟩
  | false =>
   have hj := Nat.ne_of_beq_eq_false hb
   rw [hb] at hq
   rw [if_neg hj]
   exact ⟨g', S', hf, hs, hq⟩
 | goto l => exact ⟨g', S', hf, hs, hq⟩
 | ret => exact ⟨g', S', hf, hs, hq⟩
 | panic c => exact ⟨g', S', hf, hs, hq⟩
 | outgrown => exact ⟨g', S', hf, hs, hq⟩
theorem WP.cond {c : Operand} {x y : Code} {b : Bool} (hc : ev g c = some (.bool b)) (ht : b = true → WP F P n x g S Q) (hf : b = false → WP F P n y g S Q) : WP F P n (.cond c x y) g S Q := fun a w f s =>
 wpIn_cond (f.eval hc) (by cases b with
  | true => exact ht rfl a w f s
  | false => exact hf rfl a w f s)
theorem WP.cond_true {c : Operand} {x y : Code} (hc : ev g c = some (.bool true)) (h : WP F P n x g S Q) : WP F P n (.cond c x y) g S Q := WP.cond hc (fun _ => h) (fun h => by cases h)
theorem WP.cond_false {c : Operand} {x y : Code} (hc : ev g c = some (.bool false)) (h : WP F P n y g S Q) : WP F P n (.cond c x y) g S Q := WP.cond hc (fun h => by cases h) (fun _ => h)

theorem wpIn_loop_fuel {c : Code} {Q : Exit → Act → World → Prop} (I : Nat → Act → World → Prop) (fuel : Nat) {a : Act} {w : World} (h₀ : I fuel a w)
 (round : ∀ m a w, I m a w → c.wpIn F 0 P (Exit.then (fun a' w' => ∃ m', m' < m ∧ I m' a' w') Q) a w) : (Code.loop c).wpIn F 0 P Q a w := by
 intro b k cs hro hb hr
 have key : ∀ m a w, I m a w → ∃ e a' w', Q e a' w' ∧ ArrivesIn (Machine.fenced P F) P (lone (b.atR a (.code c :: .inLoop c :: k)) cs w) b k cs e a' w' := by
  intro m
  induction m using Nat.strongRecOn with
  | _ m ih =>
   intro a w hI
   obtain ⟨e, a₁, w₁, hq, harr⟩ := round m a w hI b (.inLoop c :: k) cs hro hb hr
   cases e with
   | normal =>
    obtain ⟨m', hlt, hI₁⟩ := hq
    obtain ⟨e₂, a₂, w₂, hq₂, harr₂⟩ := ih m' hlt a₁ w₁ hI₁
    exact ⟨e₂, a₂, w₂, hq₂, .of_steps (StepsIn.trans harr (.one (fenced_calm hb hr rfl) stepR_inLoop)) harr₂⟩
   | exit id => exact ⟨_, a₁, w₁, hq, .pass (x := .inLoop c) rfl (fun _ _ => .inl (by simp)) harr⟩
   | goto l => exact ⟨_, a₁, w₁, hq, .pass (x := .inLoop c) rfl (fun _ _ => .inl (by simp)) harr⟩
   | ret => exact ⟨_, a₁, w₁, hq, .pass (x := .inLoop c) rfl (fun _ _ => .inl (by simp)) harr⟩
   | panic ch => exact ⟨_, a₁, w₁, hq, .pass (x := .inLoop c) rfl (fun _ _ => .inl (by simp)) harr⟩
   | outgrown => exact ⟨_, a₁, w₁, hq, .pass (x := .inLoop c) rfl (fun _ _ => .inl (by simp)) harr⟩
 obtain ⟨e, a', w', hq, harr⟩ := key _ a w h₀
 exact ⟨e, a', w', hq, .of_steps (.one (fenced_calm hb hr rfl) stepR_loop) harr⟩

theorem WP.loop {c : Code} (I : Nat → Frm → Pred → Prop) (fuel : Nat) (h : I fuel g S) (zero : ∀ g S, I 0 g S → False)
 (step : ∀ m g S, I (m + 1) g S → WP F P n c g S (thenQ (fun g' S' => I m g' S') Q)) : WP F P n (.loop c) g S Q := fun a w f s => by
 refine wpIn_loop_fuel (fun m a w => ∃ g S, Fits n g a ∧ S w ∧ I m g S) fuel ⟨g, S, f, s, h⟩ (fun m a w ⟨g, S, f, s, hI⟩ => ?_)
 cases m with
 | zero => exact (zero g S hI).elim
 | succ m =>
  refine Code.wpIn_mono (fun e a' w' ⟨g', S', hf, hs, hq⟩ => ?_) (step m g S hI a w f s)
  cases e with
  | normal => exact ⟨m, Nat.lt_succ_self m, g', S', hf, hs, hq⟩
  | exit id => exact ⟨g', S', hf, hs, hq⟩
  | goto l => exact ⟨g', S', hf, hs, hq⟩
  | ret => exact ⟨g', S', hf, hs, hq⟩
  | panic c => exact ⟨g', S', hf, hs, hq⟩
  | outgrown => exact ⟨g', S', hf, hs, hq⟩
end

def WL (F : Fence) (P : Program) (n : Nat) (ops : Array Oper) (l : List Oper) (g : Frm) (S : Pred) (K : Frm → Pred → Prop) : Prop :=
 ∀ a w, Fits n g a → S w → ∀ Q : Exit → Act → World → Prop, (∀ g' S' a' w', K g' S' → Fits n g' a' → S' w' → Q .normal a' w') → wpListIn F 0 P ops Q l a w
def QL (P : Program) (n : Nat) (ops : Array Oper) (S : Pred) (l : List Oper) (g : Frm) (J : Frm → Prop) : Prop :=
 ∀ a, Fits n g a → ∀ Q : Act → Prop, (∀ g' a', J g' → Fits n g' a' → Q a') → wpQuiet P ops S Q l a
def OQ (P : Program) (n : Nat) (o : Oper) (g : Frm) (S : Pred) (v : Value) : Prop :=
 ∀ a w, Fits n g a → S w → Oper.quietUpon P S w v ((execOp a.eval o).run P w)
section
variable {F : Fence} [Free F] {P : Program} {n : Nat} {g : Frm} {S : Pred} {K : Frm → Pred → Prop} {J : Frm → Prop} {ops : Array Oper} {l : List Oper} {o : Oper}
theorem Oper.wpIn_of {a : Act} {w : World} {next : Act → World → Prop} {Q : Exit → Act → World → Prop} (h : o.wp P a w (fun a' w' => a'.defers = a.defers ∧ next a' w') Q) : o.wpIn F 0 P a w next Q := by
 refine ⟨fun f _ => Free.fn f, ?_⟩
 unfold Oper.wp at h
 have hs : (o.semAt F.round a.eval).run P w = (execOp a.eval o).run P w := by
  by_cases hd : ∃ c, o.op = .defer c
  · obtain ⟨c, hc⟩ := hd
    cases hF : F.round with
    | none => rw [Oper.semAt_none]
    | some l =>
     have e1 : execOp a.eval o = (do pure (.defer (← resolve a.eval c o.type))) := by simp [execOp, hc]
     have e2 : o.semAt (some l) a.eval = (do Instr.deferInRound l (← resolve a.eval c o.type); pure .skip) := by simp [Oper.semAt, hc]
     rw [e1] at h ⊢
     rw [e2]
     simp only [Sem.run_bind] at h ⊢
     cases hr : (resolve a.eval c o.type).run P w with
     | ok d w' =>
      rw [hr] at h
      simp only [Result.andThen_ok, Sem.run_pure, Oper.upon] at h
      have := congrArg List.length h.1
      cases hdst : o.dst <;> (rw [hdst] at this; simp [Act.put] at this)
     | halt x w' => rfl
  · rw [Oper.semAt_eq _ _ _ (fun c hc => hd ⟨c, hc⟩)]
 rw [hs]
 generalize (execOp a.eval o).run P w = r at h ⊢
 cases r with
 | ok x w' =>
  cases x <;> simp only [Oper.upon] at h <;> simp only [Oper.uponIn]
  case value u => exact h.2
  case skip => exact h.2
  case defer d => exact h.2
  case enter f args =>
   refine ⟨fun q => (by rw [Free.depth] at q; cases q), Free.calls (Calls.mono h fun e w'' he => ?_)⟩
   cases e with
   | returned v => exact he.2
   | panicked c => exact he
   | outgrown => exact he
  case row row args => exact ⟨fun q => (by rw [Free.depth] at q; cases q), Free.rows (Rows.mono h fun u w'' he => he.2)⟩
 | halt x w' =>
  cases x <;> simp only [Oper.upon] at h <;> simp only [Oper.uponIn]
  case panic u => exact h
theorem WL.nil (h : K g S) : WL F P n ops [] g S K := fun _ _ f s _ hQ => hQ g S _ _ h f s
theorem QL.nil (h : J g) : QL P n ops S [] g J := fun _ f _ hQ => hQ g _ h f
theorem WL.sub {g₁ : Frm} (k : Sub g₁ g) (h : WL F P n ops l g₁ S K) : WL F P n ops l g S K := fun a w f s => h a w (f.sub k) s
theorem WL.weaken {S₁ : Pred} (k : ∀ w, S w → S₁ w) (h : WL F P n ops l g S₁ K) : WL F P n ops l g S K := fun a w f s => h a w f (k w s)
theorem QL.sub {g₁ : Frm} (k : Sub g₁ g) (h : QL P n ops S l g₁ J) : QL P n ops S l g J := fun a f => h a (f.sub k)
theorem QL.mono {J' : Frm → Prop} (k : ∀ g, J g → J' g) (h : QL P n ops S l g J) : QL P n ops S l g J' := fun a f Q hQ => h a f Q (fun g' a' j f' => hQ g' a' (k g' j) f')

theorem OQ.wp {v : Value} (h : OQ P n o g S v) {a : Act} {w : World} (f : Fits n g a) (s : S w) {K : Act → World → Prop} {Q : Exit → Act → World → Prop} (hk : ∀ w', S w' → K (a.put o.dst v) w') : o.wp P a w K Q := by
 have h3 := h a w f s
 unfold Oper.wp
 generalize (execOp a.eval o).run P w = r at *
 cases r with
 | ok x w' =>
  cases x <;> simp only [Oper.quietUpon] at h3 <;> simp only [Oper.upon]
  case value u => obtain ⟨e1, e2⟩ := h3; rw [e1, e2]; exact hk _ s
  case skip => obtain ⟨e1, e2⟩ := h3; rw [e1, ← e2]; exact hk _ s
  case enter f args => obtain ⟨e1, hc⟩ := h3; rw [e1]; exact hc.mono fun e w'' ⟨he, hw''⟩ => by subst he; exact hk _ hw''
 | halt x w' => simp only [Oper.quietUpon] at h3

theorem OQ.wpd {v : Value} (h : OQ P n o g S v) {a : Act} {w : World} (f : Fits n g a) (s : S w) {K : Act → World → Prop} {Q : Exit → Act → World → Prop} (hk : ∀ w', S w' → K (a.put o.dst v) w') : o.wpIn F 0 P a w K Q :=
 Oper.wpIn_of (h.wp f s fun w' s' => ⟨by cases o.dst <;> rfl, hk w' s'⟩)
theorem wpList_do {Q : Exit → Act → World → Prop} {a : Act} {w : World} (hw : Region.wanted o (yielded ops a.tmps) = true) (h : o.wpIn F 0 P a w (wpListIn F 0 P ops Q l) Q) : wpListIn F 0 P ops Q (o :: l) a w := by
 unfold wpListIn
 rw [if_pos hw]
 exact h
theorem wpList_pass {Q : Exit → Act → World → Prop} {a : Act} {w : World} (hw : Region.wanted o (yielded ops a.tmps) = false) (h : wpListIn F 0 P ops Q l (a.put o.dst undef) w) : wpListIn F 0 P ops Q (o :: l) a w := by
 unfold wpListIn
 rw [if_neg (by simp [hw])]
 exact ⟨fun f _ => Free.fn f, h⟩
theorem wanted_none (hg : o.guard = none) (y : Nat → Option Bool) : Region.wanted o y = true := by simp [Region.wanted, hg]
theorem yielded_of {a : Act} (f : Fits n g a) {j t : Nat} {b : Bool} (hj : ((ops[j]?).bind (·.dst)) = some t) (ht : ev g (.tmp t) = some (.bool b)) : yielded ops a.tmps j = some b := by
 simp [yielded, hj, f.slots t _ (ev_tmp ht).2 (ev_tmp ht).1]
theorem wanted_yes {a : Act} (f : Fits n g a) {j t : Nat} {b c : Bool} (hg : o.guard = some (j, b)) (hj : ((ops[j]?).bind (·.dst)) = some t) (ht : ev g (.tmp t) = some (.bool c)) (hc : c = b) : Region.wanted o (yielded ops a.tmps) = true := by
 subst hc
 simp [Region.wanted, hg, yielded_of f hj ht]
theorem wanted_no {a : Act} (f : Fits n g a) {j t : Nat} {b c : Bool} (hg : o.guard = some (j, b)) (hj : ((ops[j]?).bind (·.dst)) = some t) (ht : ev g (.tmp t) = some (.bool c)) (hc : c = !b) : Region.wanted o (yielded ops a.tmps) = false := by
 subst hc
 simp [Region.wanted, hg, yielded_of f hj ht]
theorem wanted_undef {a : Act} (f : Fits n g a) {j t : Nat} {b : Bool} (hg : o.guard = some (j, b)) (hj : ((ops[j]?).bind (·.dst)) = some t) (ht : ev g (.tmp t) = some undef) : Region.wanted o (yielded ops a.tmps) = false := by
 have : yielded ops a.tmps j = none := by simp [yielded, hj, f.slots t _ (ev_tmp ht).2 (ev_tmp ht).1, undef]
 simp [Region.wanted, hg, this]

def Runs (n : Nat) (ops : Array Oper) (g : Frm) (o : Oper) : Prop := ∀ a, Fits n g a → Region.wanted o (yielded ops a.tmps) = true
def Idle (n : Nat) (ops : Array Oper) (g : Frm) (o : Oper) : Prop := ∀ a, Fits n g a → Region.wanted o (yielded ops a.tmps) = false
theorem Runs.free (hg : o.guard = none) : Runs n ops g o := fun _ _ => wanted_none hg _
theorem Runs.yes {L : List Oper} {j t : Nat} {b c : Bool} (hg : o.guard = some (j, b)) (hj : ((L[j]?).bind (·.dst)) = some t) (ht : ev g (.tmp t) = some (.bool c)) (hc : c = b) : Runs n L.toArray g o := fun _ f => wanted_yes f hg (by simpa using hj) ht hc
theorem Idle.no {L : List Oper} {j t : Nat} {b c : Bool} (hg : o.guard = some (j, b)) (hj : ((L[j]?).bind (·.dst)) = some t) (ht : ev g (.tmp t) = some (.bool c)) (hc : c = !b) : Idle n L.toArray g o := fun _ f => wanted_no f hg (by simpa using hj) ht hc
theorem Idle.undef {L : List Oper} {j t : Nat} {b : Bool} (hg : o.guard = some (j, b)) (hj : ((L[j]?).bind (·.dst)) = some t) (ht : ev g (.tmp t) = some undef) : Idle n L.toArray g o := fun _ f => wanted_undef f hg (by simpa using hj) ht

theorem WL.quiet {d : Nat} {v : Value} (hr : Runs n ops g o) (hd : o.dst = some d) (hn : okDst d n = true) (h : OQ P n o g S v) (k : WL F P n ops l ((d, v) :: g) S K) : WL F P n ops (o :: l) g S K := fun a w f s Q hQ =>
 wpList_do (hr a f) (h.wpd f s fun w' s' => k _ w' (by rw [hd]; exact f.put hn v) s' Q hQ)
theorem WL.idle {d : Nat} (hr : Idle n ops g o) (hd : o.dst = some d) (hn : okDst d n = true) (k : WL F P n ops l ((d, undef) :: g) S K) : WL F P n ops (o :: l) g S K := fun a w f s Q hQ =>
 wpList_pass (hr a f) (k _ w (by rw [hd]; exact f.put hn undef) s Q hQ)
theorem QL.quiet {d : Nat} {v : Value} (hr : Runs n ops g o) (hd : o.dst = some d) (hn : okDst d n = true) (h : OQ P n o g S v) (k : QL P n ops S l ((d, v) :: g) J) : QL P n ops S (o :: l) g J := fun a f Q hQ => by
 unfold wpQuiet
 rw [if_pos (hr a f)]
 exact ⟨v, fun w s => h a w f s, k _ (by rw [hd]; exact f.put hn v) Q hQ⟩
theorem QL.idle {d : Nat} (hr : Idle n ops g o) (hd : o.dst = some d) (hn : okDst d n = true) (k : QL P n ops S l ((d, undef) :: g) J) : QL P n ops S (o :: l) g J := fun a f Q hQ => by
 unfold wpQuiet
 rw [if_neg (by rw [hr a f]; simp)]
 exact k _ (by rw [hd]; exact f.put hn undef) Q hQ

theorem wpQuiet_append {Q : Act → Prop} : ∀ (l r : List Oper) (a : Act), wpQuiet P ops S (fun a' => wpQuiet P ops S Q r a') l a → wpQuiet P ops S Q (l ++ r) a
 | [], _, _, hh => hh
 | o :: l, r, a, hh => by
  show wpQuiet P ops S Q (o :: (l ++ r)) a
  unfold wpQuiet at *
  split
  · rename_i hw; rw [if_pos hw] at hh; obtain ⟨v, h1, h2⟩ := hh; exact ⟨v, h1, wpQuiet_append l r _ h2⟩
  · rename_i hw; rw [if_neg hw] at hh; exact wpQuiet_append l r _ hh
theorem wpList_of_quiet {Q : Exit → Act → World → Prop} {r : List Oper} : ∀ (l : List Oper) (a : Act) (w : World), S w → wpQuiet P ops S (fun a' => ∀ w', S w' → wpListIn F 0 P ops Q r a' w') l a → wpListIn F 0 P ops Q (l ++ r) a w
 | [], _, w, s, hh => hh w s
 | o :: l, a, w, s, hh => by
  show wpListIn F 0 P ops Q (o :: (l ++ r)) a w
  unfold wpQuiet at hh
  by_cases hw : Region.wanted o (yielded ops a.tmps) = true
  · rw [if_pos hw] at hh
    obtain ⟨v, hv, hk⟩ := hh
    exact wpList_do hw (Oper.wpIn_of (Oper.wp_of_quiet (K := fun a' => a'.defers = a.defers ∧ wpQuiet P ops S (fun a' => ∀ w', S w' → wpListIn F 0 P ops Q r a' w') l a') s (fun a' w' s' h' => ⟨h'.1, wpList_of_quiet l a' w' s' h'.2⟩) ⟨v, hv, by cases o.dst <;> rfl, hk⟩))
  · rw [if_neg hw] at hh
    exact wpList_pass (by simpa using hw) (wpList_of_quiet l _ w s hh)
theorem WL.part (k : Nat) (h : QL P n ops S (l.take k) g J) (h' : ∀ g', J g' → WL F P n ops (l.drop k) g' S K) : WL F P n ops l g S K := fun a w f s Q hQ => by
 rw [← List.take_append_drop k l]
 exact wpList_of_quiet _ a w s (h a f _ fun g' a' j f' w' s' => h' g' j a' w' f' s' Q hQ)
theorem QL.part {J' : Frm → Prop} (k : Nat) (h : QL P n ops S (l.take k) g J') (h' : ∀ g', J' g' → QL P n ops S (l.drop k) g' J) : QL P n ops S l g J := fun a f Q hQ => by
 rw [← List.take_append_drop k l]
 exact wpQuiet_append _ _ a (h a f _ fun g' a' j f' => h' g' j a' f' Q hQ)
theorem wp_then {o : Oper} {a : Act} {w : World} {next next' K : Act → World → Prop} {Q : Exit → Act → World → Prop} (hn : ∀ a w, next a w → next' a w) (h : o.wpIn F 0 P a w next (Exit.then K Q)) : o.wpIn F 0 P a w next' Q := by
 refine ⟨h.1, ?_⟩
 have h := h.2
 generalize (o.semAt F.round a.eval).run P w = r at *
 cases r with
 | ok x w' =>
  cases x <;> simp only [Oper.uponIn] at h ⊢
  case value u => exact hn _ _ h
  case skip => exact hn _ _ h
  case defer d => exact hn _ _ h
  case enter f args =>
   refine ⟨h.1, CallsIn.mono h.2 fun e w'' he => ?_⟩
   cases e with
   | returned v => exact hn _ _ he
   | panicked c => exact he
   | outgrown => exact he
  case row row args => exact ⟨h.1, RowsIn.mono h.2 fun u w'' he => hn _ _ he⟩
  case round l f tmps assign body =>
   refine ⟨h.1, RoundIn.mono h.2 fun e w'' he => ?_⟩
   cases e with
   | returned v => exact hn _ _ he
   | panicked c => exact he
   | outgrown => exact he
 | halt x w' =>
  cases x <;> simp only [Oper.uponIn] at h ⊢
  case panic u => exact h
theorem wpList_cut {Q : Exit → Act → World → Prop} {r : List Oper} : ∀ (l : List Oper) (a : Act) (w : World), wpListIn F 0 P ops (Exit.then (fun a' w' => wpListIn F 0 P ops Q r a' w') Q) l a w → wpListIn F 0 P ops Q (l ++ r) a w
 | [], _, _, h => h
 | o :: l, a, w, h => by
  show wpListIn F 0 P ops Q (o :: (l ++ r)) a w
  unfold wpListIn at h ⊢
  split
  · rename_i hw
    rw [if_pos hw] at h
    exact wp_then (fun a' w' h' => wpList_cut l a' w' h') h
  · rename_i hw
    rw [if_neg hw] at h
    exact ⟨h.1, wpList_cut l _ w h.2⟩
theorem WL.cut (k : Nat) {J : Frm → Pred → Prop} (h : WL F P n ops (l.take k) g S J) (h' : ∀ g' S', J g' S' → WL F P n ops (l.drop k) g' S' K) : WL F P n ops l g S K := fun a w f s Q hQ => by
 rw [← List.take_append_drop k l]
 exact wpList_cut _ a w (h a w f s _ fun g' S' a' w' j f' s' => h' g' S' j a' w' f' s' Q hQ)
theorem WL.cut_bool (k d : Nat) {x : Bool} (h : WL F P n ops (l.take k) g S fun g' S' => Sub ((d, .bool x) :: g) g' ∧ ∀ w, S' w → S w) (h' : WL F P n ops (l.drop k) ((d, .bool x) :: g) S K) : WL F P n ops l g S K :=
 WL.cut k h fun g' S' ⟨h1, h2⟩ => WL.sub h1 (WL.weaken h2 h')
theorem QL.part_bool (k d : Nat) {x : Bool} (h : QL P n ops S (l.take k) g fun g' => Sub ((d, .bool x) :: g) g') (h' : QL P n ops S (l.drop k) ((d, .bool x) :: g) J) : QL P n ops S l g J :=
 QL.part k h fun g' h1 => QL.sub h1 h'
theorem guard_eq {x : Operand} {c b : Bool} (h : ev g x = some (.bool c)) (hc : c = b) : ev g x = some (.bool b) := by rw [h, hc]

theorem WP.region {Q : Exit → Frm → Pred → Prop} {id : Nat} {l : List Oper} (h : WL F P n l.toArray l g S fun g' S' => Q .normal g' S') : WP F P n (.region id l.toArray false) g S Q := fun a w f s =>
 wpIn_region_lit (h a w f s _ fun g' S' _ _ hq hf hs => ⟨g', S', hf, hs, hq⟩)
theorem WP.region_draws [hw : Wide F] {Q : Exit → Frm → Pred → Prop} {id : Nat} {l : List Oper} (hm : P.follows .mixedOrders = true) (hB : Region.lexB .any l.toArray = true) (hd : ∀ w, S w → S w.drew)
 (h : QL P n l.toArray S l g fun g' => Q .normal g' S) : WP F P n (.region id l.toArray true) g S Q := fun a w f s =>
 hw.out ▸ wpIn_wide.2 (wp_region_quiet (C := S) hm hB (hd w s) (by
  have := h a f (fun a' => ∀ w', S w' → ∃ g' S', Fits n g' a' ∧ S' w' ∧ Q .normal g' S') (fun g' a' hq hf w' hs => ⟨g', S, hf, hs, hq⟩)
  simpa using this))
end

def retQ (n : Nat) (fn : Func) (P : Program) (R : Value → World → Prop) : Exit → Frm → Pred → Prop
 | .ret, g, S | .normal, g, S => ∃ (v : Value) (S' : Pred), ((look g markKey = some (.bool false) ∧ ∀ w, S w → S' w) ∨ ∃ D : Nat, look g markKey = some (.int .i64 D) ∧ ∀ w, S w → w.heap[D]? = some (.deferred (some [])) ∧ S' (w.putObj D (.deferred none))) ∧
  (∀ a w, Fits n g a → S' w → (results fn a.tmps).run P w = .ok v w) ∧ ∀ w, S' w → R v w
 | _, _, _ => False
def argFrm : Nat → List Value → Frm
 | _, [] => [(markKey, .bool false)]
 | i, v :: vs => (i, v) :: argFrm (i + 1) vs
theorem look_argFrm : ∀ (vs : List Value) (i t : Nat) (v : Value), t ≠ markKey → look (argFrm i vs) t = some v → i ≤ t ∧ vs[t - i]? = some v
 | [], _, t, _, hm, h => by
  rw [argFrm, look_cons, if_neg (fun e => hm e.symm)] at h
  cases h
 | x :: vs, i, t, v, hm, h => by
  rw [argFrm, look_cons] at h
  split at h
  · rename_i e; subst e; cases h; exact ⟨Nat.le_refl _, by simp⟩
  · rename_i e
    obtain ⟨h1, h2⟩ := look_argFrm vs (i + 1) t v hm h
    refine ⟨by omega, ?_⟩
    have : t - i = (t - (i + 1)) + 1 := by omega
    rw [this]
    simpa using h2
theorem mark_argFrm : ∀ (vs : List Value) (i : Nat), i + vs.length ≤ markKey → look (argFrm i vs) markKey = some (.bool false)
 | [], _, _ => by rw [argFrm, look_cons, if_pos rfl]
 | x :: vs, i, h => by
  rw [List.length_cons] at h
  rw [argFrm, look_cons, if_neg (by omega)]
  exact mark_argFrm vs (i + 1) (by omega)
theorem calls_of {P : Program} {f : FuncId} {fn : Func} {c : Code} {vs : List Value} {w : World} {R : Value → World → Prop} (S : Pred) (hs : S w)
 (hf : P.funcs[f]? = some fn) (hb : fn.body = some c) (n : Nat) (hnt : fn.ntmps = n) (hn : Nat.ble vs.length n = true) (h : WP Fence.wide P n c (argFrm 0 vs) S (retQ n fn P R)) (hm : Nat.ble vs.length markKey = true) :
 Calls P f vs.toArray w fun e w' => ∃ v, e = .returned v ∧ R v w' := by
 subst hnt
 have hn' : vs.length ≤ fn.ntmps := Nat.le_of_ble_eq_true hn
 have hm' : vs.length ≤ markKey := Nat.le_of_ble_eq_true hm
 have fits : Fits fn.ntmps (argFrm 0 vs) { tmps := vs.toArray ++ Array.replicate (fn.ntmps - vs.toArray.size) undef, defers := [] } := by
  refine ⟨fun v e => ?_, by simp; omega, fun t v e ht => ?_⟩
  · rw [mark_argFrm vs 0 (by omega)] at e
    cases e
    rfl
  · have := (look_argFrm vs 0 t v ht e).2
    simp only [Nat.sub_zero] at this
    have hlt := (List.getElem?_eq_some_iff.1 this).1
    rw [Array.getElem?_append_left (by simpa using hlt)]
    simpa using this
 refine (callsIn_wide (n := 0)).1 (callsIn_of_wp_marks hf hb trivial (Code.wpIn_mono ?_ (h _ w fits hs)))
 have leave : ∀ {g' : Frm} {S' : Pred} {a : Act} {w : World}, Fits fn.ntmps g' a → S' w → retQ fn.ntmps fn P R .ret g' S' → LeavesInM Fence.wide 0 P fn a.tmps (fun e w' => ∃ v, e = .returned v ∧ R v w') a.defers .returning w := by
  intro g' S' a w hf' hs' hq
  obtain ⟨v, S2, hcase, hres, hR⟩ := hq
  rcases hcase with ⟨h1, h2⟩ | ⟨D, h1, h2⟩
  · rw [hf'.marks _ h1]
    exact ⟨v, hres a w hf' (h2 w hs'), v, rfl, hR w (h2 w hs')⟩
  · rw [hf'.marks _ h1]
    obtain ⟨h3, h4⟩ := h2 w hs'
    refine ⟨by simp, .inl ⟨D, _, by simp, run_takeDeferred h3, ?_⟩⟩
    exact ⟨v, hres a _ hf' h4, v, rfl, hR _ h4⟩
 rintro e a w ⟨g', S', hf', hs', hq⟩
 cases e with
 | normal => exact leave hf' hs' hq
 | ret => exact leave hf' hs' hq
 | exit id => exact hq.elim
 | goto l => exact hq.elim
 | panic c => exact hq.elim
 | outgrown => exact hq.elim

def mkS (l : List UInt8) : Value := .string ⟨l.toArray⟩

abbrev Heap := Nat → Option Obj
def hp (w : World) : Heap := fun b => w.heap[b]?
def Le (H H' : Heap) : Prop := ∀ b o, H b = some o → H' b = some o
theorem Le.refl (H : Heap) : Le H H := fun _ _ h => h
theorem Le.trans {a b c : Heap} (h : Le a b) (k : Le b c) : Le a c := fun x o e => k x o (h x o e)
def cellH (H : Heap) (a : Addr) : Option Value :=
 match H a.block with
 | some (.cells c _ _) => if a.spot.isSome then none else c[a.off]?
 | _ => none
theorem cellH_mono {H H' : Heap} (h : Le H H') {a : Addr} {v : Value} (e : cellH H a = some v) : cellH H' a = some v := by
 unfold cellH at *
 cases hb : H a.block with
 | none => rw [hb] at e; cases e
 | some o => rw [h _ _ hb]; rw [hb] at e; exact e
theorem cellH_world {H : Heap} {w : World} (h : Le H (hp w)) {a : Addr} {v : Value} (e : cellH H a = some v) : w.cell? a = some v := by
 have := cellH_mono h e
 exact this

def ownsM (w : World) (base : Nat) (e : TypeId) (v : Value) (n : Nat) (xs : List Value) : Prop :=
 xs.length = n ∧ ∃ g cap cur fz, v = .slice (some ⟨g, 0, none⟩) n cap ∧ base ≤ g ∧ w.heap[g]? = some (.cells cur e fz) ∧ (∀ i, i < cur.size → ¬ (fz.1 ≤ i ∧ i < fz.2)) ∧ n ≤ cap ∧ cap ≤ maxLen ∧ cur.size = cap ∧ cur.toList.take n = xs
inductive Ent where
 | blk (b : Nat) (T : TypeId) (cs : List Value)
 | row (T : TypeId) (sz n : Nat) (v : Value) (xs : List Value)
 | obj (b : Nat) (o : Obj)
 | mrow (T : TypeId) (n : Nat) (v : Value) (xs : List Value)
def Ent.at : Ent → Option Nat
 | .blk b _ _ => some b
 | .row _ _ _ v _ => v.ownBlock
 | .obj b _ => some b
 | .mrow _ _ v _ => v.ownBlock
def Ent.sat (base : Nat) (w : World) : Ent → Prop
 | .blk b T cs => w.heap[b]? = some (.cells cs.toArray T (0, 0))
 | .row T sz n v xs => w.ownsRow base T sz v n xs
 | .obj b o => w.heap[b]? = some o
 | .mrow T n v xs => ownsM w base T v n xs
structure St (w0 : World) (H0 : Heap) (ms : List Ent) (H : Heap) (w : World) : Prop where
 old : ∀ b o, H b = some o → b < w0.heap.size → H0 b = some o
 below : Below w0.heap.size w0 w
 hold : Le H (hp w)
 sat : ∀ e ∈ ms, e.sat w0.heap.size w
 own : ∀ e ∈ ms, ∀ b, e.at = some b → w0.heap.size ≤ b ∧ H b = none
 apart : ms.Pairwise (fun x y => ∀ b, x.at = some b → y.at ≠ some b)
section
variable {w0 w w' : World} {ms : List Ent} {H0 H : Heap}
theorem St.start (w : World) (H : Heap) (h : Le H (hp w)) : St w H [] H w := ⟨fun _ _ h _ => h, Below.refl _ _, h, (fun _ h => by cases h), (fun _ h => by cases h), List.Pairwise.nil⟩
theorem St.drew (h : St w0 H0 ms H w) : St w0 H0 ms H w.drew := ⟨h.old, h.below.drew, h.hold, h.sat, h.own, h.apart⟩
theorem Ent.lt {base : Nat} {e : Ent} (h : e.sat base w) {b : Nat} (hb : e.at = some b) : b < w.heap.size := by
 cases e with
 | blk c T cs => simp only [Ent.at, Option.some.injEq] at hb; subst hb; exact (Array.getElem?_eq_some_iff.1 h).1
 | row T sz n v xs => exact (World.ownsRow.lt h b hb).2
 | obj c o => simp only [Ent.at, Option.some.injEq] at hb; subst hb; exact (Array.getElem?_eq_some_iff.1 h).1
 | mrow T n v xs =>
  obtain ⟨_, g, cap, cur, fz, rfl, _, hg, _⟩ := h
  simp only [Ent.at, Value.ownBlock, Option.some.injEq] at hb
  subst hb
  exact (Array.getElem?_eq_some_iff.1 hg).1
theorem St.less {ms' : List Ent} (h : St w0 H0 ms H w) (k : ms'.Sublist ms) : St w0 H0 ms' H w :=
 ⟨h.old, h.below, h.hold, fun e he => h.sat e (k.subset he), fun e he => h.own e (k.subset he), h.apart.sublist k⟩
theorem St.select {ms' : List Ent} (h : St w0 H0 ms H w) (idx : List Nat) (hn : idx.Nodup) (hm : idx.filterMap (ms[·]?) = ms') : St w0 H0 ms' H w := by
 subst hm
 have hp2 := List.pairwise_iff_getElem.1 h.apart
 have mem : ∀ e ∈ idx.filterMap (ms[·]?), e ∈ ms := fun e he => by
  obtain ⟨i, _, hi⟩ := List.mem_filterMap.1 he
  exact List.mem_of_getElem? hi
 refine ⟨h.old, h.below, h.hold, fun e he => h.sat e (mem e he), fun e he => h.own e (mem e he), ?_⟩
 rw [List.pairwise_filterMap]
 refine hn.imp_of_mem (fun {i j} _ _ hij x hx y hy b hb => ?_)
 obtain ⟨hi, rfl⟩ := List.getElem?_eq_some_iff.1 (show ms[i]? = some x from hx)
 obtain ⟨hj, rfl⟩ := List.getElem?_eq_some_iff.1 (show ms[j]? = some y from hy)
 rcases Nat.lt_or_gt_of_ne hij with hlt | hgt
 · exact hp2 i j hi hj hlt b hb
 · intro hb'
   exact hp2 j i hj hi hgt b hb' hb
theorem St.tail {e : Ent} (h : St w0 H0 (e :: ms) H w) : St w0 H0 ms H w := h.less (List.sublist_cons_self e ms)
theorem St.heap {H' : Heap} (h : St w0 H0 ms H w) (k : Le H' H) : St w0 H0 ms H' w :=
 ⟨fun b o e => h.old b o (k b o e), h.below, k.trans h.hold, h.sat, fun e he b hb => ⟨(h.own e he b hb).1, by
  have := (h.own e he b hb).2
  cases hh : H' b with
  | none => rfl
  | some o => rw [k b o hh] at this; cases this⟩, h.apart⟩
theorem Ent.sat_same {base : Nat} {e : Ent} (h : e.sat base w) (k : ∀ b, e.at = some b → w'.heap[b]? = w.heap[b]?) : e.sat base w' := by
 cases e with
 | blk c T cs => exact (k c rfl).trans h
 | row T sz n v xs =>
  refine ⟨h.1, ?_⟩
  rcases h.2 with hn | ⟨g, cap, cur, rfl, hb, hg, r⟩
  · exact .inl hn
  · exact .inr ⟨g, cap, cur, rfl, hb, (k g rfl).trans hg, r⟩
 | obj c o => exact (k c rfl).trans h
 | mrow T n v xs =>
  obtain ⟨h0, g, cap, cur, fz, rfl, h1, hg, h2⟩ := h
  exact ⟨h0, g, cap, cur, fz, rfl, h1, (k g rfl).trans hg, h2⟩
theorem St.grow (h : St w0 H0 ms H w) (k : Below w.heap.size w w') : St w0 H0 ms H w' :=
 ⟨h.old, h.below.trans (k.mono h.below.size), fun b o hb => by
  have h1 := h.hold b o hb
  have hlt := (Array.getElem?_eq_some_iff.1 h1).1
  exact (k.block b hlt).trans h1,
  fun e he => Ent.sat_same (h.sat e he) (fun b hb => k.block b (Ent.lt (h.sat e he) hb)), h.own, h.apart⟩
def newer (w w' : World) (H : Heap) : Heap := fun b => if b < w.heap.size then H b else w'.heap[b]?
theorem St.gain (h : St w0 H0 ms H w) (k : Below w.heap.size w w') : St w0 H0 ms (newer w w' H) w' := by
 have h' := h.grow k
 refine ⟨fun b o hb hlt => ?_, h'.below, fun b o hb => ?_, h'.sat, fun e he b hb => ⟨(h.own e he b hb).1, ?_⟩, h.apart⟩
 · unfold newer at hb
   rw [if_pos (Nat.lt_of_lt_of_le hlt h.below.size)] at hb
   exact h.old b o hb hlt
 · unfold newer at hb
   split at hb
   · exact h'.hold b o hb
   · exact hb
 · unfold newer
   rw [if_pos (Ent.lt (h.sat e he) hb)]
   exact (h.own e he b hb).2
theorem newer_le (h : St w0 H0 ms H w) : Le H (newer w w' H) := fun b o hb => by
 have hlt := (Array.getElem?_eq_some_iff.1 (h.hold b o hb)).1
 unfold newer
 rw [if_pos hlt]
 exact hb
theorem St.turn (h : St w0 H0 ms H w) {i : Nat} {e e' : Ent} (hi : ms[i]? = some e) (k : w.grownBy w' e.at) (hs : e'.sat w0.heap.size w') (ha : ∀ b, e'.at = some b → e.at = some b ∨ w.heap.size ≤ b) : St w0 H0 (ms.set i e') H w' := by
 have hmem : e ∈ ms := List.mem_of_getElem? hi
 have hbase : ∀ b, e.at = some b → w0.heap.size ≤ b := fun b hb => (h.own e hmem b hb).1
 have same : ∀ b, b < w.heap.size → e.at ≠ some b → w'.heap[b]? = w.heap[b]? := fun b hb hne => k.block b hb (fun x => hne x.symm)
 have other : ∀ x ∈ ms, (∀ b, x.at = some b → e.at ≠ some b) → x.sat w0.heap.size w' := fun x hx hd =>
  Ent.sat_same (h.sat x hx) fun b hb => same b (Ent.lt (h.sat x hx) hb) (hd b hb)
 have hp2 := List.pairwise_iff_getElem.1 h.apart
 obtain ⟨hlt, hie⟩ := List.getElem?_eq_some_iff.1 hi
 have far : ∀ (j : Nat) (hj : j < ms.length), j ≠ i → ∀ b, ms[j].at = some b → e.at ≠ some b := fun j hj hne b hb => by
  rcases Nat.lt_or_gt_of_ne hne with hlt' | hgt
  · have := hp2 j i hj hlt hlt' b hb; rw [hie] at this; exact this
  · intro hb'
    have := hp2 i j hlt hj hgt b (by rw [hie]; exact hb')
    exact this hb
 refine ⟨h.old, ⟨k.os.trans h.below.os, k.tape.trans h.below.tape, k.output.trans h.below.output, Nat.le_trans h.below.size k.size, fun b hb => ?_⟩, fun b o hb => ?_, fun x hx => ?_, fun x hx b hb => ?_, ?_⟩
 · rw [same b (Nat.lt_of_lt_of_le hb h.below.size) (fun x => by have := hbase b x; omega)]
   exact h.below.block b hb
 · have h1 := h.hold b o hb
   have hlt' := (Array.getElem?_eq_some_iff.1 h1).1
   refine (same b hlt' (fun x => ?_)).trans h1
   have := (h.own e hmem b x).2
   rw [this] at hb
   cases hb
 · obtain ⟨j, hj, hxe⟩ := List.getElem_of_mem hx
   rw [List.getElem_set] at hxe
   split at hxe
   · rw [← hxe]; exact hs
   · rename_i hne
     have hj' : j < ms.length := by simpa using hj
     rw [← hxe]
     exact other _ (List.getElem_mem hj') (far j hj' (Ne.symm hne))
 · obtain ⟨j, hj, hxe⟩ := List.getElem_of_mem hx
   rw [List.getElem_set] at hxe
   split at hxe
   · rw [← hxe] at hb
     rcases ha b hb with hb' | hb'
     · exact h.own e hmem b hb'
     · refine ⟨Nat.le_trans h.below.size hb', ?_⟩
       cases hh : H b with
       | none => rfl
       | some o => have := (Array.getElem?_eq_some_iff.1 (h.hold b o hh)).1; omega
   · have hj' : j < ms.length := by simpa using hj
     rw [← hxe] at hb
     exact h.own _ (List.getElem_mem hj') b hb
 · rw [List.pairwise_iff_getElem]
   intro p q hp hq hpq b hb hb'
   have hp' : p < ms.length := by simpa using hp
   have hq' : q < ms.length := by simpa using hq
   rw [List.getElem_set] at hb hb'
   split at hb
   · rename_i e1
     subst e1
     rw [if_neg (by omega)] at hb'
     rcases ha b hb with h1 | h1
     · exact far q hq' (by omega) b hb' h1
     · have := Ent.lt (h.sat _ (List.getElem_mem hq')) hb'; omega
   · split at hb'
     · rename_i e1 e2
       subst e2
       rcases ha b hb' with h1 | h1
       · exact far p hp' (by omega) b hb h1
       · have := Ent.lt (h.sat _ (List.getElem_mem hp')) hb; omega
     · exact hp2 p q hp' hq' hpq b hb hb'
theorem St.push (h : St w0 H0 ms H w) {e : Ent} (k : Below w.heap.size w w') (hs : e.sat w0.heap.size w') (ha : ∀ b, e.at = some b → w.heap.size ≤ b) : St w0 H0 (e :: ms) H w' := by
 have h' := h.grow k
 refine ⟨h'.old, h'.below, h'.hold, fun x hx => ?_, fun x hx b hb => ?_, ?_⟩
 · rcases List.mem_cons.1 hx with rfl | hx
   · exact hs
   · exact h'.sat x hx
 · rcases List.mem_cons.1 hx with rfl | hx
   · refine ⟨Nat.le_trans h.below.size (ha b hb), ?_⟩
     cases hh : H b with
     | none => rfl
     | some o => have := (Array.getElem?_eq_some_iff.1 (h.hold b o hh)).1; have := ha b hb; omega
   · exact h.own x hx b hb
 · refine List.Pairwise.cons (fun y hy b hb hb' => ?_) h.apart
   have := Ent.lt (h.sat y hy) hb'
   have := ha b hb
   omega
theorem St.alloc (h : St w0 H0 ms H w) (T : TypeId) (cs : List Value) : St w0 H0 (.blk w.heap.size T cs :: ms) H (w.alloc (.cells cs.toArray T)) :=
 h.push ((Below.refl _ _).alloc (Nat.le_refl _) _) (heap_alloc_new w _) (fun b hb => by simp [Ent.at] at hb; omega)
theorem St.freeze {e : Ent} (h : St w0 H0 (e :: ms) H w) : St w0 H0 ms (fun b => if e.at = some b then w.heap[b]? else H b) w := by
 have ht := h.tail
 refine ⟨fun b o hb hlt => ?_, ht.below, fun b o hb => ?_, ht.sat, fun x hx b hb => ⟨(ht.own x hx b hb).1, ?_⟩, ht.apart⟩
 · split at hb
   · rename_i hat
     have := (h.own e (List.mem_cons_self ..) b hat).1
     omega
   · exact ht.old b o hb hlt
 · split at hb
   · exact hb
   · exact ht.hold b o hb
 · have := List.rel_of_pairwise_cons h.apart hx b
   rw [if_neg (fun hh => this hh hb)]
   exact (ht.own x hx b hb).2
theorem freeze_le {e : Ent} (h : St w0 H0 (e :: ms) H w) : Le H (fun b => if e.at = some b then w.heap[b]? else H b) := fun b o hb => by
 show (if e.at = some b then w.heap[b]? else H b) = some o
 split
 · exact h.hold b o hb
 · exact hb
end

def OV (P : Program) (n : Nat) (o : Oper) (g : Frm) (S : Pred) (v : Value) : Prop := ∀ a w, Fits n g a → S w → (execOp a.eval o).run P w = .ok (.value v) w
theorem OV.quiet {P : Program} {n : Nat} {o : Oper} {g : Frm} {S : Pred} {v : Value} (h : OV P n o g S v) : OQ P n o g S v := fun a w f s => by rw [h a w f s]; exact ⟨rfl, rfl⟩
def OS (P : Program) (n : Nat) (o : Oper) (g : Frm) (S : Pred) (K : Value → Pred → Prop) : Prop :=
 ∀ a w, Fits n g a → S w → ∀ (next : Act → World → Prop) (Q : Exit → Act → World → Prop), (∀ v S' w', K v S' → S' w' → next (a.put o.dst v) w') → o.wp P a w next Q
section
variable {F : Fence} [Free F] {P : Program} {n : Nat} {o : Oper} {g : Frm} {S : Pred} {ops : Array Oper} {l : List Oper} {K : Frm → Pred → Prop}
theorem OQ.step {v : Value} {K : Value → Pred → Prop} (h : OQ P n o g S v) (k : K v S) : OS P n o g S K := fun _ _ f s _ _ hn => h.wp f s fun w' s' => hn v S w' k s'
theorem WL.step {d : Nat} (hr : Runs n ops g o) (hd : o.dst = some d) (hn : okDst d n = true) (h : OS P n o g S fun v S' => WL F P n ops l ((d, v) :: g) S' K) : WL F P n ops (o :: l) g S K := fun a w f s Q hQ =>
 wpList_do (hr a f) (Oper.wpIn_of (h a w f s _ _ fun v S' w' k s' => ⟨by cases o.dst <;> rfl, k _ w' (by rw [hd]; exact f.put hn v) s' Q hQ⟩))
theorem WL.step0 (hr : Runs n ops g o) (hd : o.dst = none) (h : OS P n o g S fun _ S' => WL F P n ops l g S' K) : WL F P n ops (o :: l) g S K := fun a w f s Q hQ =>
 wpList_do (hr a f) (Oper.wpIn_of (h a w f s _ _ fun v S' w' k s' => ⟨by cases o.dst <;> rfl, k _ w' (by rw [hd]; exact f) s' Q hQ⟩))
end

def AL (P : Program) (n : Nat) (ops : Array Oper) (S₀ : Pred) (fuel : Nat) (listed : Array Bool) (g : Frm) (S : Pred) (K : Frm → Pred → Prop) : Prop :=
 ∀ a w, Fits n g a → S w → S₀ w → ∀ Q : Exit → Act → World → Prop, (∀ c a d v w, Q (.panic c) (Act.put a d v) w → Q (.panic c) a w) → (∀ g' S' a' w', K g' S' → Fits n g' a' → S' w' → Q .normal a' w') → wpAnyH P .any ops Q S₀ fuel listed a w
section
variable {P : Program} {n : Nat} {o : Oper} {g : Frm} {S S₀ : Pred} {ops : Array Oper} {fuel : Nat} {listed : Array Bool} {K : Frm → Pred → Prop}
theorem AL.done (hr : Region.ready .any ops listed = []) (h : K g S) : AL P n ops S₀ fuel listed g S K := fun _ _ f s _ _ _ hQ => wpAnyH_done hr (hQ g S _ _ h f s) fuel
theorem AL.take {L : List Oper} {i d : Nat} {v : Value} (hi : L[i]? = some o) (hs : Region.noSelect L.toArray = true) (hf : Region.free .any L.toArray listed i = true) (hr : (Region.ready .any L.toArray listed).contains i = true)
 (hw : Runs n L.toArray g o) (hd : o.dst = some d) (hn : okDst d n = true) (h : OV P n o g S₀ v) (k : AL P n L.toArray S₀ fuel (listed.setIfInBounds i true) ((d, v) :: g) S K) : AL P n L.toArray S₀ (fuel + 1) listed g S K := fun a w f s s0 Q hp hQ =>
 wpAnyH_take (by simpa using hi) hs hf hr (fun c a w => hp c a _ _ w) (.inl ⟨hw a f, fun w s0 => h a w f s0⟩) s0 (k _ w (by rw [hd]; exact f.put hn v) s s0 Q hp hQ)
theorem AL.idle {L : List Oper} {i d : Nat} (hi : L[i]? = some o) (hs : Region.noSelect L.toArray = true) (hf : Region.free .any L.toArray listed i = true) (hr : (Region.ready .any L.toArray listed).contains i = true)
 (hw : Idle n L.toArray g o) (hd : o.dst = some d) (hn : okDst d n = true) (k : AL P n L.toArray S₀ fuel (listed.setIfInBounds i true) ((d, undef) :: g) S K) : AL P n L.toArray S₀ (fuel + 1) listed g S K := fun a w f s s0 Q hp hQ =>
 wpAnyH_take (by simpa using hi) hs hf hr (fun c a w => hp c a _ _ w) (.inr ⟨hw a f, rfl⟩) s0 (k _ w (by rw [hd]; exact f.put hn undef) s s0 Q hp hQ)
def ALs (P : Program) (n : Nat) (ops : Array Oper) (S₀ : Pred) (fuel : Nat) (listed : Array Bool) (g : Frm) (S : Pred) (K : Frm → Pred → Prop) (rs : List Nat) : Prop :=
 ∀ i ∈ rs, ∀ a w, Fits n g a → S w → S₀ w → ∀ Q : Exit → Act → World → Prop, (∀ c a d v w, Q (.panic c) (Act.put a d v) w → Q (.panic c) a w) → (∀ g' S' a' w', K g' S' → Fits n g' a' → S' w' → Q .normal a' w') →
  wpOp P ops Q i (fun a' w' => S₀ w' ∧ wpAnyH P .any ops Q S₀ fuel (listed.setIfInBounds i true) a' w') a w
theorem AL.any {rs : List Nat} (hr : Region.ready .any ops listed = rs) (hne : rs ≠ []) (h : ALs P n ops S₀ fuel listed g S K rs) : AL P n ops S₀ (fuel + 1) listed g S K := fun a w f s s0 Q hp hQ =>
 wpAnyH_all hr hne fun i hi => h i hi a w f s s0 Q hp hQ
theorem ALs.nil : ALs P n ops S₀ fuel listed g S K [] := fun _ h => by cases h
theorem ALs.cons {L : List Oper} {i d : Nat} {rs : List Nat} (hi : L[i]? = some o) (hw : Runs n L.toArray g o) (hd : o.dst = some d) (hn : okDst d n = true)
 (h : OS P n o g S fun v S' => (∀ w, S' w → S₀ w) ∧ AL P n L.toArray S₀ fuel (listed.setIfInBounds i true) ((d, v) :: g) S' K) (k : ALs P n L.toArray S₀ fuel listed g S K rs) : ALs P n L.toArray S₀ fuel listed g S K (i :: rs) := fun j hj a w f s s0 Q hp hQ => by
 rcases List.mem_cons.1 hj with rfl | hj
 · have hi' : L.toArray[j]? = some o := by simpa using hi
   unfold wpOp
   simp only [hi']
   rw [if_pos (hw a f)]
   exact .inl (h a w f s _ _ fun v S' w' hk s' => ⟨hk.1 w' s', hk.2 _ w' (by rw [hd]; exact f.put hn v) s' (hk.1 w' s') Q hp hQ⟩)
 · exact k j hj a w f s s0 Q hp hQ
theorem ALs.cons0 {L : List Oper} {i : Nat} {rs : List Nat} (hi : L[i]? = some o) (hw : Runs n L.toArray g o) (hd : o.dst = none)
 (h : OS P n o g S fun _ S' => (∀ w, S' w → S₀ w) ∧ AL P n L.toArray S₀ fuel (listed.setIfInBounds i true) g S' K) (k : ALs P n L.toArray S₀ fuel listed g S K rs) : ALs P n L.toArray S₀ fuel listed g S K (i :: rs) := fun j hj a w f s s0 Q hp hQ => by
 rcases List.mem_cons.1 hj with rfl | hj
 · have hi' : L.toArray[j]? = some o := by simpa using hi
   unfold wpOp
   simp only [hi']
   rw [if_pos (hw a f)]
   exact .inl (h a w f s _ _ fun v S' w' hk s' => ⟨hk.1 w' s', hk.2 _ w' (by rw [hd]; exact f) s' (hk.1 w' s') Q hp hQ⟩)
 · exact k j hj a w f s s0 Q hp hQ
def calmQ (Q : Exit → Act → World → Prop) : Exit → Act → World → Prop
 | .panic _, _, _ => False
 | e, a, w => Q e a w
theorem WP.region_any {F : Fence} [hw : Wide F] {Q : Exit → Frm → Pred → Prop} {id : Nat} {l : List Oper} (N : Nat) (hN : l.length = N) (hm : P.follows .mixedOrders = true) (h0 : ∀ w, S w → S₀ w) (hd : ∀ w, S w → S w.drew)
 (h : AL P n l.toArray S₀ N (Array.replicate N false) g S fun g' S' => Q .normal g' S') : WP F P n (.region id l.toArray true) g S Q := fun a w f s => by
 subst hN
 refine hw.out ▸ wpIn_wide.2 ?_
 refine Code.wp_mono (Q := calmQ (fun e a' w' => ∃ g' S', Fits n g' a' ∧ S' w' ∧ Q e g' S')) (fun e a w hq => by cases e <;> first | exact hq | exact (hq : False).elim) ?_
 refine wp_region_held (S := S₀) hm ?_
 rw [List.size_toArray]
 refine h a w.drew f (hd w s) (h0 _ (hd w s)) _ (fun c a d v w hq => hq) fun g' S' a' w' hq hf hs => ?_
 exact ⟨g', S', hf, hs, hq⟩
end
section
variable {P : Program} {n : Nat} {o : Oper} {g : Frm} {S : Pred} {K : Value → Pred → Prop}

theorem ov_move {x : Operand} {v : Value} (h : o.op = .move x) (hx : ev g x = some v) : OV P n o g S v := fun a w f _ => by simp [execOp, h, f.eval hx]
theorem ov_assign {x : Operand} {v : Value} (h : o.op = .assign x) (hx : ev g x = some v) : OV P n o g S v := fun a w f _ => by simp [execOp, h, f.eval hx]
theorem ov_pick_true {c x y : Operand} {u : Value} (h : o.op = .pick c x y) (hc : ev g c = some (.bool true)) (hx : ev g x = some u) : OV P n o g S u := fun a w f _ => by
 simp [execOp, h, f.eval hc, f.eval hx, asBool]
theorem ov_pick_false {c x y : Operand} {v : Value} (h : o.op = .pick c x y) (hc : ev g c = some (.bool false)) (hy : ev g y = some v) : OV P n o g S v := fun a w f _ => by
 simp [execOp, h, f.eval hc, f.eval hy, asBool]

theorem eqGuard_int {op : BinOp} {t : TypeId} {x y : Operand} {k k' : IntKind} {a b : Int} : eqGuard op t x y (.int k a) (.int k' b) = pure () := by
 unfold eqGuard; split <;> rfl
theorem eqGuard_bool {op : BinOp} {t : TypeId} {x y : Operand} {a b : Bool} : eqGuard op t x y (.bool a) (.bool b) = pure () := by
 unfold eqGuard; split <;> rfl
theorem eqGuard_string {op : BinOp} {t : TypeId} {x y : Operand} {a b : ByteArray} : eqGuard op t x y (.string a) (.string b) = pure () := by
 unfold eqGuard; split <;> rfl
theorem ov_binOp {op : BinOp} {T T' : TypeId} {x y : Operand} {u v r : Value} (h : o.op = .binOp op T x y T') (hx : ev g x = some u) (hy : ev g y = some v)
 (hg : eqGuard op T x y u v = pure ()) (hr : ∀ w, (binOp op T u v).run P w = .ok r w) : OV P n o g S r := fun a w f _ => by
 simp [execOp, h, f.eval hx, f.eval hy, hg, hr]
section
variable {T T' : TypeId} {x y : Operand} {k : IntKind} {i j : Int}
theorem ov_add (h : o.op = .binOp .add T x y T') (hx : ev g x = some (.int k i)) (hy : ev g y = some (.int k j)) : OV P n o g S (.int k (k.wrap (i + j))) :=
 ov_binOp h hx hy eqGuard_int fun w => by simp [binOp, Op.intArith]
theorem ov_sub (h : o.op = .binOp .sub T x y T') (hx : ev g x = some (.int k i)) (hy : ev g y = some (.int k j)) : OV P n o g S (.int k (k.wrap (i - j))) :=
 ov_binOp h hx hy eqGuard_int fun w => by simp [binOp, Op.intArith]
theorem ov_mul (h : o.op = .binOp .mul T x y T') (hx : ev g x = some (.int k i)) (hy : ev g y = some (.int k j)) : OV P n o g S (.int k (k.wrap (i * j))) :=
 ov_binOp h hx hy eqGuard_int fun w => by simp [binOp, Op.intArith]
theorem ov_quo (h : o.op = .binOp .quo T x y T') (hx : ev g x = some (.int k i)) (hy : ev g y = some (.int k j)) (h0 : ¬ j = 0) : OV P n o g S (.int k (k.wrap (i.tdiv j))) :=
 ov_binOp h hx hy eqGuard_int fun w => by simp [binOp, Op.intDiv, h0]
theorem ov_eql (h : o.op = .binOp .eql T x y T') (hx : ev g x = some (.int k i)) (hy : ev g y = some (.int k j)) : OV P n o g S (.bool (i == j)) :=
 ov_binOp h hx hy eqGuard_int fun w => by simp [binOp, Op.intCmp]
theorem ov_neq (h : o.op = .binOp .neq T x y T') (hx : ev g x = some (.int k i)) (hy : ev g y = some (.int k j)) : OV P n o g S (.bool (i != j)) :=
 ov_binOp h hx hy eqGuard_int fun w => by simp [binOp, Op.intCmp]
theorem ov_lss (h : o.op = .binOp .lss T x y T') (hx : ev g x = some (.int k i)) (hy : ev g y = some (.int k j)) : OV P n o g S (.bool (decide (i < j))) :=
 ov_binOp h hx hy eqGuard_int fun w => by simp [binOp, Op.intCmp]
theorem ov_leq (h : o.op = .binOp .leq T x y T') (hx : ev g x = some (.int k i)) (hy : ev g y = some (.int k j)) : OV P n o g S (.bool (decide (i ≤ j))) :=
 ov_binOp h hx hy eqGuard_int fun w => by simp [binOp, Op.intCmp]
theorem ov_gtr (h : o.op = .binOp .gtr T x y T') (hx : ev g x = some (.int k i)) (hy : ev g y = some (.int k j)) : OV P n o g S (.bool (decide (i > j))) :=
 ov_binOp h hx hy eqGuard_int fun w => by simp [binOp, Op.intCmp]
theorem ov_geq (h : o.op = .binOp .geq T x y T') (hx : ev g x = some (.int k i)) (hy : ev g y = some (.int k j)) : OV P n o g S (.bool (decide (i ≥ j))) :=
 ov_binOp h hx hy eqGuard_int fun w => by simp [binOp, Op.intCmp]
variable {s t : List UInt8}
theorem ov_seql (h : o.op = .binOp .eql T x y T') (hx : ev g x = some (mkS s)) (hy : ev g y = some (mkS t)) : OV P n o g S (.bool (s == t)) :=
 ov_binOp h hx hy eqGuard_string fun w => by simp [mkS, binOp, Op.stringOp]
theorem ov_sneq (h : o.op = .binOp .neq T x y T') (hx : ev g x = some (mkS s)) (hy : ev g y = some (mkS t)) : OV P n o g S (.bool (!(s == t))) :=
 ov_binOp h hx hy eqGuard_string fun w => by simp [mkS, binOp, Op.stringOp]
def maxS : Nat := 9223372036854775807
theorem ov_sadd (h : o.op = .binOp .add T x y T') (hx : ev g x = some (mkS s)) (hy : ev g y = some (mkS t)) (hl : s.length + t.length ≤ maxS) : OV P n o g S (mkS (s ++ t)) :=
 ov_binOp h hx hy eqGuard_string fun w => by
  have e1 : (ByteArray.mk s.toArray).size = s.length := by simp [ByteArray.size]
  have e2 : (ByteArray.mk t.toArray).size = t.length := by simp [ByteArray.size]
  have e3 : ByteArray.mk s.toArray ++ ByteArray.mk t.toArray = ByteArray.mk (s ++ t).toArray := by
   apply ByteArray.ext
   simp [ByteArray.data_append]
  have e4 : IntKind.i64.max = 9223372036854775807 := by decide
  simp only [mkS, binOp, Op.stringOp, e1, e2, e3, e4]
  rw [if_neg (by unfold maxS at hl; omega)]
  rfl
theorem ov_beql {b c : Bool} (hT : P.underlying T = some .bool) (h : o.op = .binOp .eql T x y T') (hx : ev g x = some (.bool b)) (hy : ev g y = some (.bool c)) : OV P n o g S (.bool (b == c)) :=
 ov_binOp h hx hy eqGuard_bool fun w => by
  show ((Op.equal T (.bool b) (.bool c) >>= fun r => pure (Value.bool r)) : Sem Value).run P w = _
  rw [Sem.run_bind, run_equal_bool w T b c hT]; rfl
end
theorem ov_not {T : TypeId} {x : Operand} {b : Bool} (h : o.op = .unOp .not T x) (hx : ev g x = some (.bool b)) : OV P n o g S (.bool (!b)) := fun a w f _ => by
 simp [execOp, h, f.eval hx, Op.unary]
theorem ov_neg {T : TypeId} {x : Operand} {k : IntKind} {i : Int} (h : o.op = .unOp .neg T x) (hx : ev g x = some (.int k i)) : OV P n o g S (.int k (k.wrap (0 - i))) := fun a w f _ => by
 simp [execOp, h, f.eval hx, Op.unary, Op.intArith]
theorem ov_convert_int {A B : TypeId} {x : Operand} {k k' : IntKind} {i : Int} {d : TypeDesc} (hA : P.underlying A = some d) (hB : P.underlying B = some (.int k')) (h : o.op = .convert A B x) (hx : ev g x = some (.int k i)) :
 OV P n o g S (.int k' (k'.wrap i)) := fun a w f _ => by
 simp [execOp, h, f.eval hx, convert, run_underlying hA, run_underlying hB, Conv.intToInt]
theorem ov_convert_rune {A B : TypeId} {x : Operand} {k : IntKind} {i : Int} {d : TypeDesc} (hA : P.underlying A = some d) (hB : P.underlying B = some .string) (h : o.op = .convert A B x) (hx : ev g x = some (.int k i)) :
 OV P n o g S (.string (Utf8.encode i)) := fun a w f _ => by
 simp [execOp, h, f.eval hx, convert, run_underlying hA, run_underlying hB, Conv.intToString]
theorem ov_len_string {T : TypeId} {x : Operand} {s : List UInt8} (hT : P.underlying T = some .string) (h : o.op = .call { callee := .builtin .len, args := #[x], argTypes := #[T] }) (hx : ev g x = some (mkS s)) :
 OV P n o g S (.int .i64 (s.length : Int)) := fun a w f _ => by
 have e1 : (ByteArray.mk s.toArray).size = s.length := by simp [ByteArray.size]
 simp [execOp, h, resolve, invoke, builtin, f.eval hx, Builtin.len_, run_underlying hT, mkS, goInt, e1]
theorem ov_len_slice {T E : TypeId} {x : Operand} {ao : Option Addr} {m c : Nat} (hT : P.underlying T = some (.slice E)) (h : o.op = .call { callee := .builtin .len, args := #[x], argTypes := #[T] }) (hx : ev g x = some (.slice ao m c)) :
 OV P n o g S (.int .i64 (m : Int)) := fun a w f _ => by
 simp [execOp, h, resolve, invoke, builtin, f.eval hx, Builtin.len_, run_underlying hT, goInt]
theorem ov_max {T U : TypeId} {x y : Operand} {i j : Int} {k : IntKind} (h : o.op = .call { callee := .builtin .max, args := #[x, y], argTypes := #[T, U] }) (hx : ev g x = some (.int k i)) (hy : ev g y = some (.int k j)) :
 OV P n o g S (.int k (if j > i then j else i)) := fun a w f _ => by
 simp [execOp, h, resolve, invoke, builtin, f.eval hx, f.eval hy, Builtin.max_, Builtin.max2]
theorem ov_extract {x : Operand} {i : Nat} {vs : Array Value} {v : Value} (h : o.op = .extract x i) (hx : ev g x = some (.tuple vs)) (hv : vs[i]? = some v) : OV P n o g S v := fun a w f _ => by
 simp [execOp, h, f.eval hx, Instr.extract, hv]
theorem ov_makeFunc {fn : Fn} {first captured : Array Operand} {vs us : Array Value} (h : o.op = .makeFunc fn first captured) (hf : ∀ a, Fits n g a → first.map a.eval = vs) (hc : ∀ a, Fits n g a → captured.map a.eval = us) : OV P n o g S (.func fn vs us) := fun a w f _ => by
 simp [execOp, h, hf a f, hc a f, Instr.makeFunc]

def byteAt (s : List UInt8) (i : Int) : Option UInt8 := if 0 ≤ i then s[i.toNat]? else none
theorem ov_index_string {T : TypeId} {x y : Operand} {s : List UInt8} {k : IntKind} {i : Int} {b : UInt8} (hT : P.underlying T = some .string) (h : o.op = .index T x y) (hx : ev g x = some (mkS s)) (hy : ev g y = some (.int k i)) (hb : byteAt s i = some b) :
 OV P n o g S (.int .u8 (b.toNat : Int)) := fun a w f _ => by
 unfold byteAt at hb
 split at hb
 · rename_i h0
   have e1 : (ByteArray.mk s.toArray)[i.toNat]? = some b := by
    obtain ⟨hlt, he⟩ := List.getElem?_eq_some_iff.1 hb
    have hlt' : i.toNat < (ByteArray.mk s.toArray).size := by simpa [ByteArray.size] using hlt
    rw [ByteArray.getElem?_lt' _ _ hlt']
    congr 1
   simp [execOp, h, f.eval hx, f.eval hy, mkS, Instr.index, asIntOf, run_underlying hT, h0, e1]
 · cases hb
def cut (s : List UInt8) (i j : Int) : Option (List UInt8) := if 0 ≤ i ∧ i ≤ j ∧ j ≤ s.length then some ((s.drop i.toNat).take (j.toNat - i.toNat)) else none
theorem cut_some {s r : List UInt8} {i j : Int} (h : cut s i j = some r) : 0 ≤ i ∧ i ≤ j ∧ j ≤ s.length ∧ r = (s.drop i.toNat).take (j.toNat - i.toNat) := by
 unfold cut at h
 split at h
 · rename_i h0; cases h; exact ⟨h0.1, h0.2.1, h0.2.2, rfl⟩
 · cases h
theorem extract_mkS (s : List UInt8) (i j : Nat) : Value.string ((ByteArray.mk s.toArray).extract i j) = mkS ((s.drop i).take (j - i)) := by
 rw [ByteArray.extract_mk]; rfl
theorem ov_slice_string {T : TypeId} {x y z : Operand} {s r : List UInt8} {k k' : IntKind} {i j : Int} (hT : P.underlying T = some .string) (h : o.op = .slice T x (some y) (some z) none) (hx : ev g x = some (mkS s))
 (hy : ev g y = some (.int k i)) (hz : ev g z = some (.int k' j)) (hr : cut s i j = some r) : OV P n o g S (mkS r) := fun a w f _ => by
 obtain ⟨h1, h2, h3, rfl⟩ := cut_some hr
 have e1 : (ByteArray.mk s.toArray).size = s.length := by simp [ByteArray.size]
 rw [← extract_mkS]
 have hs := run_slice_string (P := P) w T ⟨s.toArray⟩ k k' i j hT h1 h2 (by rw [e1]; exact h3)
 simp [execOp, h, f.eval hx, f.eval hy, f.eval hz, mkS, Instr.sliceAt, run_underlying hT, hs]
theorem ov_slice_string_from {T : TypeId} {x y : Operand} {s r : List UInt8} {k : IntKind} {i : Int} (hT : P.underlying T = some .string) (h : o.op = .slice T x (some y) none none) (hx : ev g x = some (mkS s))
 (hy : ev g y = some (.int k i)) (hr : cut s i s.length = some r) : OV P n o g S (mkS r) := fun a w f _ => by
 obtain ⟨h1, h2, h3, rfl⟩ := cut_some hr
 have e1 : (ByteArray.mk s.toArray).size = s.length := by simp [ByteArray.size]
 have e2 : ((s.length : Int).toNat) = s.length := by omega
 rw [e2, ← extract_mkS]
 simp [execOp, h, f.eval hx, f.eval hy, mkS, Instr.sliceAt, run_underlying hT, Instr.slice, Instr.sliceBounds, Instr.sliceBound, asIntOf, e1, h1, h2]
theorem ov_slice_string_to {T : TypeId} {x z : Operand} {s r : List UInt8} {k : IntKind} {j : Int} (hT : P.underlying T = some .string) (h : o.op = .slice T x none (some z) none) (hx : ev g x = some (mkS s))
 (hz : ev g z = some (.int k j)) (hr : cut s 0 j = some r) : OV P n o g S (mkS r) := fun a w f _ => by
 obtain ⟨h1, h2, h3, rfl⟩ := cut_some hr
 have e1 : (ByteArray.mk s.toArray).size = s.length := by simp [ByteArray.size]
 have e2 : (0 : Int).toNat = 0 := rfl
 rw [e2, ← extract_mkS]
 simp [execOp, h, f.eval hx, f.eval hz, mkS, Instr.sliceAt, run_underlying hT, Instr.slice, Instr.sliceBounds, Instr.sliceBound, asIntOf, e1, h3, show 0 ≤ j from by omega]

def pB (b k : Nat) : Value := .pointer (some ⟨b, k, none⟩)
def pE (ao : Option Addr) (k : Nat) : Value := .pointer (some ((ao.getD ⟨0, 0, none⟩).add k))
theorem addr_add (b k j : Nat) : (⟨b, k, none⟩ : Addr).add j = ⟨b, k + j, none⟩ := by unfold Addr.add; split <;> simp_all
theorem add_add (a : Addr) (k j : Nat) : (a.add k).add j = a.add (k + j) := by
 unfold Addr.add
 by_cases h1 : k = 0
 · subst h1; simp
 · by_cases h2 : j = 0
   · subst h2; simp
   · rw [if_neg h1, if_neg h2, if_neg (by omega)]
     simp [Nat.add_assoc]
theorem ov_fieldAddr {T F : TypeId} {x : Operand} {i b k s off : Nat} {fs : Array Field} {fd : Field} (hT : P.underlying T = some (.struct fs)) (hf : fs[i]? = some fd) (ho : fd.offset = off) (hF : fd.type = F) (hs : ∀ w, (sizeOf F).run P w = .ok (s + 1) w) (h : o.op = .fieldAddr T x i) (hx : ev g x = some (pB b k)) :
 OV P n o g S (pB b (k + off)) := fun a w f _ => by
 subst hF
 subst ho
 simp [execOp, h, f.eval hx, pB, Instr.fieldAt, run_underlying hT, hf, Instr.sureAddr, fieldPlace, hs, addr_add]
theorem ov_fieldAddrE {T F : TypeId} {x : Operand} {i k s off : Nat} {ao : Option Addr} {fs : Array Field} {fd : Field} (hT : P.underlying T = some (.struct fs)) (hf : fs[i]? = some fd) (ho : fd.offset = off) (hF : fd.type = F) (hs : ∀ w, (sizeOf F).run P w = .ok (s + 1) w) (h : o.op = .fieldAddr T x i) (hx : ev g x = some (pE ao k)) :
 OV P n o g S (pE ao (k + off)) := fun a w f _ => by
 subst hF
 subst ho
 simp [execOp, h, f.eval hx, pE, Instr.fieldAt, run_underlying hT, hf, Instr.sureAddr, fieldPlace, hs, add_add]
theorem ov_nilCheck {x : Operand} {ad : Addr} (h : o.op = .nilCheck x) (hx : ev g x = some (.pointer (some ad))) : OV P n o g S (.pointer (some ad)) := fun a w f _ => by
 simp [execOp, h, f.eval hx]
theorem ov_nilCheckB {x : Operand} {b k : Nat} (h : o.op = .nilCheck x) (hx : ev g x = some (pB b k)) : OV P n o g S (pB b k) := ov_nilCheck h hx
theorem ov_indexAddr_arr {T E : TypeId} {x y : Operand} {b k m s : Nat} {kk : IntKind} {i : Int} (hT : P.underlying T = some (.array m E)) (hs : ∀ w, (sizeOf E).run P w = .ok s w) (h : o.op = .indexAddr T x y) (hx : ev g x = some (pB b k)) (hy : ev g y = some (.int kk i)) (h0 : 0 ≤ i) (h1 : i < m) :
 OV P n o g S (pB b (k + i.toNat * s)) := fun a w f _ => by
 simp [execOp, h, f.eval hx, f.eval hy, pB, Instr.indexAt, asIntOf, run_underlying hT, Instr.sureAddr, h0, h1, hs, addr_add]
theorem ov_indexAddr {T E : TypeId} {x y : Operand} {m c s : Nat} {ao : Option Addr} {kk : IntKind} {i : Int} (hT : P.underlying T = some (.slice E)) (hs : ∀ w, (sizeOf E).run P w = .ok s w) (h : o.op = .indexAddr T x y) (hx : ev g x = some (.slice ao m c)) (hy : ev g y = some (.int kk i)) (h0 : 0 ≤ i) (h1 : i < m) (ha : ∃ a, ao = some a) :
 OV P n o g S (pE ao (i.toNat * s)) := fun a w f _ => by
 obtain ⟨ad, rfl⟩ := ha
 simp [execOp, h, f.eval hx, f.eval hy, pE, Instr.indexAt, asIntOf, run_underlying hT, h0, h1, hs]
end

def RowAt (H : Heap) (ao : Option Addr) (k : Nat) (cs : List Value) : Prop := ∀ j u, cs[j]? = some u → ∃ a, ao = some a ∧ cellH H (a.add (k + j)) = some u
section
variable {H H' : Heap} {ao : Option Addr} {k : Nat} {cs : List Value}
theorem RowAt.mono (h : RowAt H ao k cs) (l : Le H H') : RowAt H' ao k cs := fun j u e => let ⟨a, h1, h2⟩ := h j u e; ⟨a, h1, cellH_mono l h2⟩
theorem RowAt.one (h : RowAt H ao k cs) {off : Nat} {v : Value} (e : cs[off]? = some v) : RowAt H ao (k + off) [v] := fun j u hu => by
 cases j with
 | zero => simp at hu; subst hu; obtain ⟨a, h1, h2⟩ := h off v e; exact ⟨a, h1, h2⟩
 | succ j => simp at hu
theorem RowAt.part (h : RowAt H ao k cs) (off m : Nat) : RowAt H ao (k + off) ((cs.drop off).take m) := fun j u hu => by
 rw [List.getElem?_take] at hu
 split at hu
 · rw [List.getElem?_drop] at hu
   obtain ⟨a, h1, h2⟩ := h (off + j) u hu
   exact ⟨a, h1, by rw [Nat.add_assoc]; exact h2⟩
 · cases hu
theorem RowAt.addr (h : RowAt H ao k cs) (hne : cs ≠ []) : ∃ a, ao = some a := by
 cases cs with
 | nil => exact absurd rfl hne
 | cons u r => obtain ⟨a, h1, _⟩ := h 0 u rfl; exact ⟨a, h1⟩
end

structure Enc (α : Type) where
 size : Nat
 rep : Heap → α → List Value → Prop
 len : ∀ {H x cs}, rep H x cs → cs.length = size
 mono : ∀ {H H' x cs}, Le H H' → rep H x cs → rep H' x cs
def Enc.flat {α : Type} (size : Nat) (f : α → List Value) (h : ∀ x, (f x).length = size) : Enc α where
 size := size
 rep := fun _ x cs => cs = f x
 len := fun e => by rw [e]; exact h _
 mono := fun _ e => e
def encInt (k : IntKind) : Enc Int := Enc.flat 1 (fun x => [.int k x]) (fun _ => rfl)
def encBool : Enc Bool := Enc.flat 1 (fun x => [.bool x]) (fun _ => rfl)
def encStr : Enc (List UInt8) := Enc.flat 1 (fun x => [mkS x]) (fun _ => rfl)
def SL {α : Type} (H : Heap) (E : Enc α) (ao : Option Addr) (l : List α) : Prop := ∀ i x, l[i]? = some x → ∃ cs, E.rep H x cs ∧ RowAt H ao (i * E.size) cs
section
variable {α : Type} {H H' : Heap} {E : Enc α} {ao : Option Addr} {l : List α}
theorem SL.nil (H : Heap) (E : Enc α) (ao : Option Addr) : SL H E ao [] := fun _ _ h => by simp at h
theorem SL.mono (h : SL H E ao l) (k : Le H H') : SL H' E ao l := fun i x e => let ⟨cs, h1, h2⟩ := h i x e; ⟨cs, E.mono k h1, h2.mono k⟩
def at? {α : Type} (l : List α) (i : Int) : Option α := if 0 ≤ i then l[i.toNat]? else none
theorem at?_some {l : List α} {i : Int} {x : α} (h : at? l i = some x) : 0 ≤ i ∧ i < l.length ∧ l[i.toNat]? = some x := by
 unfold at? at h
 split at h
 · rename_i h0
   have := (List.getElem?_eq_some_iff.1 h).1
   exact ⟨h0, by omega, h⟩
 · cases h
theorem SL.get (h : SL H E ao l) {i : Int} {x : α} (e : at? l i = some x) (hs : 0 < E.size) : 0 ≤ i ∧ i < l.length ∧ (∃ a, ao = some a) ∧ ∃ cs, E.rep H x cs ∧ RowAt H ao (i.toNat * E.size) cs := by
 obtain ⟨h0, h1, h2⟩ := at?_some e
 obtain ⟨cs, h3, h4⟩ := h _ _ h2
 refine ⟨h0, h1, h4.addr ?_, cs, h3, h4⟩
 intro hn
 have := E.len h3
 rw [hn] at this
 simp at this
 omega
end

def part? {α : Type} (l : List α) (i j : Int) : Option (List α) := if 0 ≤ i ∧ i ≤ j ∧ j ≤ l.length then some ((l.drop i.toNat).take (j.toNat - i.toNat)) else none
theorem part?_some {α : Type} {l r : List α} {i j : Int} (h : part? l i j = some r) : 0 ≤ i ∧ i ≤ j ∧ j ≤ l.length ∧ r = (l.drop i.toNat).take (j.toNat - i.toNat) := by
 unfold part? at h
 split at h
 · rename_i h0; cases h; exact ⟨h0.1, h0.2.1, h0.2.2, rfl⟩
 · cases h

section
variable {P : Program} {n : Nat} {o : Oper} {g : Frm} {S : Pred} {w0 : World} {ms : List Ent} {H0 H : Heap}

theorem ov_load_box {T T' : TypeId} {x : Operand} {b k i : Nat} {cs : List Value} {v : Value} (hA : ∀ w, (isAgg T).run P w = .ok false w) (h : o.op = .load T x) (hx : ev g x = some (pB b k)) (hi : ms[i]? = some (.blk b T' cs)) (hv : cs[k]? = some v) :
 OV P n o g (St w0 H0 ms H) v := fun a w f s => by
 have hs := s.sat _ (List.mem_of_getElem? hi)
 have hc : w.cell? ⟨b, k, none⟩ = some v := by
  simp only [Ent.sat] at hs
  simp [World.cell?, hs, hv]
 simp [execOp, h, f.eval hx, pB, Instr.loadAt, Instr.sureAddr, loadVar, hA, hc]
theorem ov_load_boxes {T T' : TypeId} {x : Operand} {b k i : Nat} {cs vs : List Value} {sz : Nat} (hA : ∀ w, (isAgg T).run P w = .ok true w) (hS : ∀ w, (sizeOf T).run P w = .ok sz w) (h : o.op = .load T x) (hx : ev g x = some (pB b k)) (hi : ms[i]? = some (.blk b T' cs))
 (hl : vs.length = sz) (hv : ∀ j u, vs[j]? = some u → cs[k + j]? = some u) : OV P n o g (St w0 H0 ms H) (.agg vs.toArray) := fun a w f s => by
 have hs := s.sat _ (List.mem_of_getElem? hi)
 have hc : ∀ j u, vs[j]? = some u → w.cell? ((⟨b, k, none⟩ : Addr).add j) = some u := fun j u e => by
  simp only [Ent.sat] at hs
  rw [addr_add]
  simp [World.cell?, hs, hv j u e]
 have hl' := run_loadCells_list (P := P) (w := w) ⟨b, k, none⟩ vs hc
 subst hl
 simp [execOp, h, f.eval hx, pB, Instr.loadAt, Instr.sureAddr, loadVar, hA, hS, hl']
theorem ov_load_whole {T T' : TypeId} {x : Operand} {b i : Nat} {cs : List Value} {sz : Nat} (hA : ∀ w, (isAgg T).run P w = .ok true w) (hS : ∀ w, (sizeOf T).run P w = .ok sz w) (h : o.op = .load T x) (hx : ev g x = some (pB b 0)) (hi : ms[i]? = some (.blk b T' cs))
 (hl : cs.length = sz) : OV P n o g (St w0 H0 ms H) (.agg cs.toArray) := ov_load_boxes hA hS h hx hi hl (fun j u e => by rw [Nat.zero_add]; exact e)
theorem ov_load_elem {T : TypeId} {x : Operand} {k : Nat} {ao : Option Addr} {v : Value} (hA : ∀ w, (isAgg T).run P w = .ok false w) (h : o.op = .load T x) (hx : ev g x = some (pE ao k)) (hr : RowAt H ao k [v]) :
 OV P n o g (St w0 H0 ms H) v := fun a w f s => by
 obtain ⟨ad, rfl, hc⟩ := hr 0 v rfl
 have hc' := cellH_world s.hold hc
 simp only [Nat.add_zero] at hc'
 simp [execOp, h, f.eval hx, pE, Instr.loadAt, Instr.sureAddr, loadVar, hA, hc']
theorem ov_load_elems {T : TypeId} {x : Operand} {k : Nat} {ao : Option Addr} {vs : List Value} {sz : Nat} (hA : ∀ w, (isAgg T).run P w = .ok true w) (hS : ∀ w, (sizeOf T).run P w = .ok sz w) (h : o.op = .load T x) (hx : ev g x = some (pE ao k)) (hl : vs.length = sz) (hr : RowAt H ao k vs) (ha : ∃ a, ao = some a) :
 OV P n o g (St w0 H0 ms H) (.agg vs.toArray) := fun a w f s => by
 obtain ⟨ad, rfl⟩ := ha
 have hc : ∀ j u, vs[j]? = some u → w.cell? ((ad.add k).add j) = some u := fun j u e => by
  obtain ⟨ad', e1, hc⟩ := hr j u e
  cases e1
  rw [add_add]
  exact cellH_world s.hold hc
 have hl' := run_loadCells_list (P := P) (w := w) (ad.add k) vs hc
 subst hl
 simp [execOp, h, f.eval hx, pE, Instr.loadAt, Instr.sureAddr, loadVar, hA, hS, hl']
theorem part_of {cs vs : List Value} {k : Nat} (h : (cs.drop k).take vs.length = vs) : ∀ j u, vs[j]? = some u → cs[k + j]? = some u := fun j u e => by
 rw [← h, List.getElem?_take] at e
 split at e
 · rwa [List.getElem?_drop] at e
 · cases e
theorem sl_cut {α : Type} {E : Enc α} {ao : Option Addr} {l : List α} {c i j : Nat} (h : SL H E ao l) (hc : l.length ≤ c) (hij : i ≤ j) (hj : j ≤ l.length) :
 SL H E (if c = i then ao else ao.map (·.add (i * E.size))) ((l.drop i).take (j - i)) := fun t x e => by
 rw [List.getElem?_take] at e
 split at e
 · rename_i hlt
   rw [List.getElem?_drop] at e
   obtain ⟨cs, h1, h2⟩ := h _ _ e
   refine ⟨cs, h1, fun q u hu => ?_⟩
   obtain ⟨a, h3, h4⟩ := h2 q u hu
   have hne : ¬ c = i := by omega
   rw [if_neg hne]
   subst h3
   refine ⟨a.add (i * E.size), rfl, ?_⟩
   rw [add_add]
   rw [show i * E.size + (t * E.size + q) = (i + t) * E.size + q from by rw [Nat.add_mul]; omega]
   exact h4
 · cases e
theorem os_alloc {T : TypeId} {z : Value} {cs : List Value} {K : Value → Pred → Prop} (hz : ∀ w, (zeroValue T).run P w = .ok z w) (hc : z.cells = cs.toArray) (h : o.op = .alloc T) (k : ∀ b, K (pB b 0) (St w0 H0 (.blk b T cs :: ms) H)) : OS P n o g (St w0 H0 ms H) K := fun a w f s next Q hn => by
 have hr : (execOp a.eval o).run P w = .ok (.value (pB w.heap.size 0)) (w.alloc (.cells cs.toArray T)) := by
  simp [execOp, h, Instr.alloc, hz, newVar, newRow, hc, pB]
 unfold Oper.wp
 rw [hr]
 exact hn _ _ _ (k _) (s.alloc T cs)
theorem os_box {T : TypeId} {x : Operand} {v : Value} {cs : List Value} {K : Value → Pred → Prop} (h : o.op = .box T x) (hx : ev g x = some v) (hc : v.cells = cs.toArray) (k : ∀ b, K (pB b 0) (St w0 H0 (.blk b T cs :: ms) H)) : OS P n o g (St w0 H0 ms H) K := fun a w f s next Q hn => by
 have hr : (execOp a.eval o).run P w = .ok (.value (pB w.heap.size 0)) (w.alloc (.cells cs.toArray T)) := by
  simp [execOp, h, f.eval hx, Instr.box, newVar, newRow, hc, pB]
 unfold Oper.wp
 rw [hr]
 exact hn _ _ _ (k _) (s.alloc T cs)
def spl (cs : List Value) (off : Nat) (vs : List Value) : List Value := cs.take off ++ vs ++ cs.drop (off + vs.length)
theorem grownBy_setRow (w : World) (b : Nat) (cs : Array Value) : w.grownBy (w.setRow b cs) (some b) :=
 ⟨rfl, rfl, rfl, by simp, fun k _ hk => setRow_other w b k _ (fun e => hk (by rw [e]))⟩
theorem os_store {T T' : TypeId} {x y : Operand} {b off i sz : Nat} {v : Value} {cs cs' vs : List Value} {K : Value → Pred → Prop} (hS : ∀ w, (sizeOf T).run P w = .ok sz w) (h : o.op = .store T x y) (hx : ev g x = some (pB b off)) (hy : ev g y = some v)
 (hi : ms[i]? = some (.blk b T' cs)) (hv : v.cells = vs.toArray) (hl : vs.length = sz) (hle : Nat.ble (off + vs.length) cs.length = true) (h1 : vs.all (·.oneCell') = true) (hcs : spl cs off vs = cs') (k : K undef (St w0 H0 (ms.set i (.blk b T' cs')) H)) : OS P n o g (St w0 H0 ms H) K := fun a w f s next Q hn => by
 have hs := s.sat _ (List.mem_of_getElem? hi)
 have hle' : off + vs.length ≤ cs.length := Nat.le_of_ble_eq_true hle
 simp only [Ent.sat] at hs
 have hst := run_storeCells_at P b off T' vs 0 cs.toArray w hs (by simpa using hle') (by simpa [List.all_eq_true] using h1)
 subst hl
 subst hcs
 have hr : (execOp a.eval o).run P w = .ok .skip (w.setRow b (spl cs off vs).toArray) := by
  simp [execOp, h, f.eval hx, f.eval hy, pB, Instr.storeAt, Instr.sureAddr, storeVar, hS, hv]
  simpa [spl] using congrArg (fun r => r.andThen fun _ w' => Result.ok Next.skip w') hst
 unfold Oper.wp
 rw [hr]
 exact hn _ _ _ k (s.turn hi (grownBy_setRow w b _) (setRow_heap w b cs.toArray _ T' _ hs) (fun c hc => .inl hc))

theorem oq_call {F : FuncId} {xs : Array Operand} {ats : Array TypeId} {vs : Array Value} {r : Value} (hc : ∀ args w, (callFunc F args).run P w = .ok (.enter F args) w) (h : o.op = .call { callee := .value (.func F), args := xs, argTypes := ats })
 (hx : ∀ a, Fits n g a → xs.map a.eval = vs) (hk : ∀ w, S w → Calls P F vs w fun e w' => e = .returned r ∧ S w') : OQ P n o g S r := fun a w f s => by
 have hr : (execOp a.eval o).run P w = .ok (.enter F vs) w := by
  simp [execOp, h, resolve, invoke, Act.eval, Deferred.ofValue, hx a f, hc]
 rw [hr]
 exact ⟨rfl, hk w s⟩
theorem os_call {F : FuncId} {xs : Array Operand} {ats : Array TypeId} {vs : Array Value} {K : Value → Pred → Prop} (hc : ∀ args w, (callFunc F args).run P w = .ok (.enter F args) w) (h : o.op = .call { callee := .value (.func F), args := xs, argTypes := ats })
 (hx : ∀ a, Fits n g a → xs.map a.eval = vs) (hk : ∀ w, S w → Calls P F vs w fun e w' => ∃ r S', e = .returned r ∧ K r S' ∧ S' w') : OS P n o g S K := fun a w f s next Q hn => by
 have hr : (execOp a.eval o).run P w = .ok (.enter F vs) w := by
  simp [execOp, h, resolve, invoke, Act.eval, Deferred.ofValue, hx a f, hc]
 unfold Oper.wp
 rw [hr]
 exact (hk w s).mono fun e w' ⟨r, S', he, hK, hS⟩ => by subst he; exact hn _ _ _ hK hS
end
def evs (g : Frm) : List Operand → Option (List Value)
 | [] => some []
 | x :: xs => match ev g x, evs g xs with
  | some v, some vs => some (v :: vs)
  | _, _ => none
theorem evs_map {n : Nat} {g : Frm} : ∀ {xs : List Operand} {vs : List Value}, evs g xs = some vs → ∀ a, Fits n g a → xs.map a.eval = vs
 | [], _, h, _, _ => by cases h; rfl
 | x :: xs, vs, h, a, f => by
  unfold evs at h
  cases hx : ev g x with
  | none => rw [hx] at h; cases h
  | some v =>
   cases hxs : evs g xs with
   | none => rw [hx, hxs] at h; cases h
   | some us =>
    rw [hx, hxs] at h
    cases h
    simp only [List.map_cons, f.eval hx, evs_map hxs a f]
theorem evs_arr {n : Nat} {g : Frm} {xs : List Operand} {vs : List Value} (h : evs g xs = some vs) : ∀ a, Fits n g a → xs.toArray.map a.eval = vs.toArray := fun a f => by
 rw [List.map_toArray, evs_map h a f]

inductive Res (P : Program) (g : Frm) (S : Pred) : List ResultVar → List Value → Prop
 | nil : Res P g S [] []
 | tmp {t : Tmp} {v : Value} {rs : List ResultVar} {vs : List Value} (h : ev g (.tmp t) = some v) (k : Res P g S rs vs) : Res P g S (.tmp t :: rs) (v :: vs)
 | cell {t T : Nat} {b : Nat} {v : Value} {rs : List ResultVar} {vs : List Value} (h : ev g (.tmp t) = some (pB b 0)) (hv : ∀ w, S w → (loadVar T ⟨b, 0, none⟩).run P w = .ok v w) (k : Res P g S rs vs) : Res P g S (.cell t T :: rs) (v :: vs)
def tupled : List Value → Value
 | [v] => v
 | vs => .tuple vs.toArray
def oneRes (tmps : Array Value) : ResultVar → Sem Value
 | .tmp t => pure (tmps.getD t undef)
 | .cell a t => do loadVar t (← asAddr (tmps.getD a undef))
theorem Res.run {P : Program} {n : Nat} {g : Frm} {S : Pred} {rs : List ResultVar} {vs : List Value} (h : Res P g S rs vs) {a : Act} {w : World} (f : Fits n g a) (s : S w) : (rs.mapM (oneRes a.tmps)).run P w = .ok vs w := by
 induction h with
 | nil => rfl
 | tmp h k ih =>
  have := f.slots _ _ (ev_tmp h).2 (ev_tmp h).1
  simp [List.mapM_cons, oneRes, Array.getD_eq_getD_getElem?, this, ih]
 | cell h hv k ih =>
  have := f.slots _ _ (ev_tmp h).2 (ev_tmp h).1
  simp [List.mapM_cons, oneRes, Array.getD_eq_getD_getElem?, this, pB, asAddr, hv w s, ih]
theorem results_of {P : Program} {n : Nat} {fn : Func} {g : Frm} {S : Pred} {rs : List ResultVar} {vs : List Value} (hr : fn.results = rs.toArray) (h : Res P g S rs vs) : ∀ a w, Fits n g a → S w → (results fn a.tmps).run P w = .ok (tupled vs) w := fun a w f s => by
 have h1 := h.run f s
 have e : results fn a.tmps = (do
  let vs ← fn.results.mapM (oneRes a.tmps)
  pure (if h : vs.size = 1 then vs[0] else .tuple vs)) := by
  unfold results
  congr 1
 have h2 : (fn.results.mapM (oneRes a.tmps)).run P w = .ok vs.toArray w := by
  rw [hr, List.mapM_toArray, Sem.run_map, h1]
  rfl
 rw [e, Sem.run_bind, h2]
 simp only [Result.andThen_ok, Sem.run_pure, tupled]
 congr 1
 split
 · rename_i he
   match vs, he with
   | [v], _ => rfl
 · rename_i hne
   split
   · simp at hne
   · rfl
theorem retQ_ret {n : Nat} {fn : Func} {P : Program} {R : Value → World → Prop} {g : Frm} {S : Pred} {rs : List ResultVar} {vs : List Value} {v : Value} (hr : fn.results = rs.toArray) (h : Res P g S rs vs) (hv : tupled vs = v) (hR : ∀ w, S w → R v w) (hm : look g markKey = some (.bool false) := by rfl) : retQ n fn P R .ret g S :=
 ⟨tupled vs, S, .inl ⟨hm, fun _ s => s⟩, results_of hr h, by rw [hv]; exact hR⟩
theorem retQ_end {n : Nat} {fn : Func} {P : Program} {R : Value → World → Prop} {g : Frm} {S : Pred} {rs : List ResultVar} {vs : List Value} {v : Value} (hr : fn.results = rs.toArray) (h : Res P g S rs vs) (hv : tupled vs = v) (hR : ∀ w, S w → R v w) (hm : look g markKey = some (.bool false) := by rfl) : retQ n fn P R .normal g S :=
 ⟨tupled vs, S, .inl ⟨hm, fun _ s => s⟩, results_of hr h, by rw [hv]; exact hR⟩
theorem box_loads {P : Program} {w0 : World} {ms : List Ent} {H0 H : Heap} {T T' : TypeId} {b i sz : Nat} {cs : List Value} (hA : ∀ w, (isAgg T).run P w = .ok true w) (hS : ∀ w, (sizeOf T).run P w = .ok sz w) (hi : ms[i]? = some (.blk b T' cs)) (hl : cs.length = sz) :
 ∀ w, St w0 H0 ms H w → (loadVar T ⟨b, 0, none⟩).run P w = .ok (.agg cs.toArray) w := fun w s => by
 have hs := s.sat _ (List.mem_of_getElem? hi)
 have hc : ∀ j u, cs[j]? = some u → w.cell? ((⟨b, 0, none⟩ : Addr).add j) = some u := fun j u e => by
  simp only [Ent.sat] at hs
  rw [addr_add]
  simp [World.cell?, hs, e]
 have hl' := run_loadCells_list (P := P) (w := w) ⟨b, 0, none⟩ cs hc
 subst hl
 simp [loadVar, hA, hS, hl']
theorem box_load {P : Program} {w0 : World} {ms : List Ent} {H0 H : Heap} {T T' : TypeId} {b i : Nat} {v : Value} (hA : ∀ w, (isAgg T).run P w = .ok false w) (hi : ms[i]? = some (.blk b T' [v])) :
 ∀ w, St w0 H0 ms H w → (loadVar T ⟨b, 0, none⟩).run P w = .ok v w := fun w s => by
 have hs := s.sat _ (List.mem_of_getElem? hi)
 have hc : w.cell? ⟨b, 0, none⟩ = some v := by
  simp only [Ent.sat] at hs
  simp [World.cell?, hs]
 simp [loadVar, hA, hc]

section
variable {P : Program} {n : Nat} {o : Oper} {g : Frm} {S : Pred} {w0 : World} {ms : List Ent} {H0 H : Heap}
def evp (g : Frm) : List (Nat × Operand) → Option (List (Nat × Value))
 | [] => some []
 | (i, x) :: xs => match ev g x, evp g xs with
  | some v, some vs => some ((i, v) :: vs)
  | _, _ => none
theorem evp_map : ∀ {xs : List (Nat × Operand)} {vs : List (Nat × Value)}, evp g xs = some vs → ∀ a, Fits n g a → xs.map (fun p => (p.1, a.eval p.2)) = vs
 | [], _, h, _, _ => by cases h; rfl
 | (i, x) :: xs, vs, h, a, f => by
  unfold evp at h
  cases hx : ev g x with
  | none => rw [hx] at h; cases h
  | some v =>
   cases hxs : evp g xs with
   | none => rw [hx, hxs] at h; cases h
   | some us =>
    rw [hx, hxs] at h
    cases h
    simp only [List.map_cons, f.eval hx, evp_map hxs a f]
theorem ov_build {T : TypeId} {ps : List (Nat × Operand)} {vs : List (Nat × Value)} {r : Value} (h : o.op = .build T ps.toArray) (hp : evp g ps = some vs) (hr : ∀ w, (Instr.build T vs.toArray).run P w = .ok r w) : OV P n o g S r := fun a w f _ => by
 have e : ps.toArray.map (fun (p : Nat × Operand) => (p.1, a.eval p.2)) = vs.toArray := by rw [List.map_toArray, evp_map hp a f]
 have e' : (ps.toArray.map fun x => match x with | (i, x) => (i, a.eval x)) = vs.toArray := e
 simp only [execOp, h, e']
 simp [hr]
theorem ov_field {T : TypeId} {x : Operand} {i : Nat} {cs : List Value} {r : Value} (h : o.op = .field T x i) (hx : ev g x = some (.agg cs.toArray)) (hr : ∀ w, (Instr.field T (.agg cs.toArray) i).run P w = .ok r w) : OV P n o g S r := fun a w f _ => by
 simp [execOp, h, f.eval hx, hr]
theorem os_buildSlice {T E : TypeId} {m sz : Nat} {ps : List (Nat × Operand)} {vs : List (Nat × Value)} {cs : List Value} {K : Value → Pred → Prop} (h : o.op = .buildSlice T m ps.toArray) (hp : evp g ps = some vs)
 (hr : ∀ w, (Instr.buildSlice T m vs.toArray).run P w = .ok (.slice (some ⟨w.heap.size, 0, none⟩) m m) (w.alloc (.cells cs.toArray E))) (hl : cs.length = m * sz) (hm : m ≤ maxLen)
 (k : ∀ b, K (.slice (some ⟨b, 0, none⟩) m m) (St w0 H0 (.row E sz m (.slice (some ⟨b, 0, none⟩) m m) cs :: ms) H)) : OS P n o g (St w0 H0 ms H) K := fun a w f s next Q hn => by
 have e : ps.toArray.map (fun (p : Nat × Operand) => (p.1, a.eval p.2)) = vs.toArray := by rw [List.map_toArray, evp_map hp a f]
 have e' : (ps.toArray.map fun x => match x with | (i, x) => (i, a.eval x)) = vs.toArray := e
 have hr' : (execOp a.eval o).run P w = .ok (.value (.slice (some ⟨w.heap.size, 0, none⟩) m m)) (w.alloc (.cells cs.toArray E)) := by
  simp only [execOp, h, e']
  simp [hr]
 unfold Oper.wp
 rw [hr']
 refine hn _ _ _ (k w.heap.size) (s.push ((Below.refl _ _).alloc (Nat.le_refl _) _) ?_ (fun b hb => by simp [Ent.at, Value.ownBlock] at hb; omega))
 exact ⟨hl, .inr ⟨w.heap.size, m, cs.toArray, rfl, s.below.size, heap_alloc_new w _, Nat.le_refl _, hm, by simpa using hl, by simp [← hl]⟩⟩

theorem append_block {w : World} {base : Nat} {T E ty : TypeId} {i0 : TypeInfo} {z v v' : Value} {w' : World} {m k c : Nat} {ad : Addr} {xs ys : List Value} (hT : P.underlying T = some (.slice E)) (hi : P.info? E = some i0) (hz : i0.zero = some z)
 (hv : w.ownsRow base E i0.size v m xs) (hl : ys.length = k * i0.size) (hy : ∀ t u, ys[t]? = some u → w.cell? (ad.add t) = some u) (h1 : ∀ u ∈ ys, u.oneCell' = true)
 (hm : m + k ≤ maxLen) (hb : (m + k) * i0.bytes ≤ 140737488355328) (hnil : v' = .slice none 0 0 ↔ v = .slice none 0 0 ∧ k = 0)
 (hr : (Builtin.append_ #[T, T] ty #[v, .slice (some ad) k c]).run P w = .ok v' w') : ∀ d, v'.ownBlock = some d → v.ownBlock = some d ∨ w.heap.size ≤ d := fun d hd => by
 unfold maxLen at hm
 have hcells := fun b (h : v.ownBlock = some b) => hv.cells (g := b) h
 rcases hv.2 with ⟨rfl, rfl⟩ | ⟨b, cap, cur, rfl, _, hh, hle, _, hcs, htake⟩
 · by_cases hk : k = 0
   · rw [hnil.2 ⟨rfl, hk⟩] at hd
     simp [Value.ownBlock] at hd
   · have := run_append_nil (P := P) w T ty E i0 z hT hi hz ad k c ys hl hy (by omega) (by omega) (by simp only [Nat.zero_add] at hb; omega)
     rw [this] at hr
     injection hr with e1 _
     subst e1
     simp [Value.ownBlock] at hd
     right; omega
 · by_cases hroom : m + k ≤ cap
   · have := run_append_room (P := P) w T ty E i0 hT hi b m cap cur hh ad k c ys hl hy h1 hroom (by rw [hl, hcs, ← Nat.add_mul]; exact Nat.mul_le_mul_right _ hroom)
     rw [this] at hr
     injection hr with e1 _
     subst e1
     exact .inl hd
   · have := run_append_grow (P := P) w T ty E i0 z hT hi hz ⟨b, 0, none⟩ m cap xs hv.1 (hcells b rfl) ad k c ys hl hy (by omega) (by omega) (growslice_fits (by omega) hb)
     rw [this] at hr
     injection hr with e1 _
     subst e1
     simp [Value.ownBlock] at hd
     right; omega
theorem os_append {T E : TypeId} {x y : Operand} {i j m k sz bytes c : Nat} {z v : Value} {b : Nat} {xs ys : List Value} {K : Value → Pred → Prop} (hT : P.underlying T = some (.slice E)) (hI : (P.info? E).map (fun i => (i.zero, i.size, i.bytes)) = some (some z, sz, bytes)) (hz : z.cells.size = sz) (hsz : 0 < sz)
 (h : o.op = .call { callee := .builtin .append, args := #[x, y], argTypes := #[T, T] }) (hx : ev g x = some v) (hy : ev g y = some (.slice (some ⟨b, 0, none⟩) k c)) (hi : ms[i]? = some (.row E sz m v xs)) (hj : ms[j]? = some (.row E sz k (.slice (some ⟨b, 0, none⟩) k c) ys)) (h1 : ys.all (·.oneCell') = true)
 (hb : (m + k) * bytes ≤ 140737488355328) (hm : m + k ≤ maxLen)
 (kk : ∀ v', (∃ ao cap, v' = .slice ao (m + k) cap) → K v' (St w0 H0 (ms.set i (.row E sz (m + k) v' (xs ++ ys))) H)) : OS P n o g (St w0 H0 ms H) K := fun a w f s next Q hn => by
 obtain ⟨i0, hi0, hz0, hz1, hz2⟩ := info_parts hI
 have si := s.sat _ (List.mem_of_getElem? hi)
 have sj := s.sat _ (List.mem_of_getElem? hj)
 have hys : ∀ t u, ys[t]? = some u → w.cell? ((⟨b, 0, none⟩ : Addr).add t) = some u := World.ownsRow.cells sj rfl
 obtain ⟨v', w', hr, hown, hgr, hnil⟩ := run_append_own (P := P) w w0.heap.size T o.type E i0 z sz bytes hT hi0 hz0 hz1 hz2 hz hsz v m xs si ⟨b, 0, none⟩ k c ys sj.1 hys (by simpa [List.all_eq_true] using h1) hm hb s.below.size
 have hr' : (execOp a.eval o).run P w = .ok (.value v') w' := by
  simp [execOp, h, resolve, invoke, builtin, f.eval hx, f.eval hy, hr]
 unfold Oper.wp
 rw [hr']
 have hv : ∃ ao cap, v' = .slice ao (m + k) cap := by
  rcases hown.2 with ⟨e1, e2⟩ | ⟨b', c', _, e1, _⟩
  · exact ⟨none, 0, by rw [e1, e2]⟩
  · exact ⟨_, c', e1⟩
 refine hn _ _ _ (kk v' hv) (s.turn hi hgr hown ?_)
 subst hz1
 subst hz2
 exact append_block hT hi0 hz0 si sj.1 hys (by simpa [List.all_eq_true] using h1) hm hb hnil hr
end

theorem bind_some {α β : Type} {m : Option α} {f : α → Option β} {r : β} (h : m.bind f = some r) : ∃ x, m = some x ∧ f x = some r := by
 cases m with
 | none => cases h
 | some x => exact ⟨x, rfl, h⟩
def guardO (c : Bool) : Option Unit := if c = true then some () else none
theorem guardO_some {c : Bool} {u : Unit} (h : guardO c = some u) : c = true := by
 unfold guardO at h
 split at h
 · assumption
 · cases h
def joinK {α β : Type} (k : α) (f : α → β) : β := f k
theorem joinK_some {α β : Type} {k : α} {f : α → Option β} {r : β} (h : joinK k f = some r) : ∃ k', k' = k ∧ f k' = some r := ⟨k, rfl, h⟩
theorem ite_t {α : Type} {c : Bool} {x y : Option α} {r : α} (h : c = true) (hm : (if c = true then x else y) = some r) : x = some r := by rw [if_pos h] at hm; exact hm
theorem ite_f {α : Type} {c : Bool} {x y : Option α} {r : α} (h : c = false) (hm : (if c = true then x else y) = some r) : y = some r := by rw [if_neg (by rw [h]; decide)] at hm; exact hm
def catO (s t : List UInt8) : Option (List UInt8) := if s.length + t.length ≤ maxS then some (s ++ t) else none
theorem catO_some {s t r : List UInt8} (h : catO s t = some r) : s.length + t.length ≤ maxS ∧ r = s ++ t := by
 unfold catO at h
 split at h
 · rename_i h0; cases h; exact ⟨h0, rfl⟩
 · cases h
def appO {α : Type} (bytes : Nat) (l r : List α) : Option (List α) := if (l.length + r.length) * bytes ≤ 140737488355328 ∧ l.length + r.length ≤ maxLen then some (l ++ r) else none
theorem appO_some {α : Type} {bytes : Nat} {l r x : List α} (h : appO bytes l r = some x) : ((l.length + r.length) * bytes ≤ 140737488355328 ∧ l.length + r.length ≤ maxLen) ∧ x = l ++ r := by
 unfold appO at h
 split at h
 · rename_i h0; cases h; exact ⟨h0, rfl⟩
 · cases h
theorem none_some {α : Type} {r : α} (h : (none : Option α) = some r) : False := by cases h
theorem mkS_data (b : ByteArray) : mkS b.data.toList = .string b := by simp [mkS]

def RL {α : Type} (H : Heap) (E : Enc α) (l : List α) (xs : List Value) : Prop := xs.length = l.length * E.size ∧ ∀ i x, l[i]? = some x → E.rep H x ((xs.drop (i * E.size)).take E.size)
section
variable {α : Type} {H H' : Heap} {E : Enc α} {l l' : List α} {xs ys cs : List Value}
theorem RL.nil (H : Heap) (E : Enc α) : RL H E [] [] := ⟨by simp, fun i x h => by simp at h⟩
theorem RL.mono (h : RL H E l xs) (k : Le H H') : RL H' E l xs := ⟨h.1, fun i x e => E.mono k (h.2 i x e)⟩
theorem RL.one {x : α} (h : E.rep H x cs) : RL H E [x] cs := by
 have hl := E.len h
 refine ⟨by simp [hl], fun i y e => ?_⟩
 cases i with
 | zero =>
  simp at e
  subst e
  rw [Nat.zero_mul, List.drop_zero, ← hl, List.take_length]
  exact h
 | succ i => simp at e
theorem RL.append (h : RL H E l xs) (k : RL H E l' ys) : RL H E (l ++ l') (xs ++ ys) := by
 refine ⟨by rw [List.length_append, List.length_append, h.1, k.1, Nat.add_mul], fun i x e => ?_⟩
 rcases Nat.lt_or_ge i l.length with hi | hi
 · rw [List.getElem?_append_left hi] at e
   have h1 := h.2 i x e
   have hle : i * E.size + E.size ≤ xs.length := by rw [h.1, ← Nat.succ_mul]; exact Nat.mul_le_mul_right _ hi
   rw [List.drop_append_of_le_length (by omega), List.take_append_of_le_length (by simp; omega)]
   exact h1
 · rw [List.getElem?_append_right hi] at e
   have h1 := k.2 _ x e
   have hle : xs.length ≤ i * E.size := by rw [h.1]; exact Nat.mul_le_mul_right _ hi
   have e1 : (xs ++ ys).drop (i * E.size) = ys.drop ((i - l.length) * E.size) := by
    rw [List.drop_append, List.drop_eq_nil_of_le hle, List.nil_append, h.1, Nat.sub_mul]
   rw [e1]
   exact h1
theorem RL.flat {size : Nat} {f : α → List Value} {hf : ∀ x, (f x).length = size} (l : List α) : RL H (Enc.flat size f hf) l (l.flatMap f) := by
 induction l with
 | nil => exact RL.nil _ _
 | cons x l ih =>
  have h1 : RL H (Enc.flat size f hf) [x] (f x) := RL.one rfl
  exact h1.append ih
theorem RL.row (h : RL H E l xs) {ao : Option Addr} (k : RowAt H ao 0 xs) : SL H E ao l := fun i x e => by
 refine ⟨_, h.2 i x e, ?_⟩
 have := k.part (i * E.size) E.size
 rw [Nat.zero_add] at this
 exact this
end

section
variable {w0 w : World} {H0 H : Heap} {ms : List Ent}
theorem St.le_newer (h : St w0 H0 ms H w) : Le H (newer w0 w H0) := fun b o e => by
 unfold newer
 split
 · rename_i hlt; exact h.old b o e hlt
 · exact h.hold b o e
theorem row_at {T : TypeId} {sz m : Nat} {v : Value} {xs : List Value} {base : Nat} {H : Heap} (h : w.ownsRow base T sz v m xs) (hH : ∀ b, v.ownBlock = some b → H b = w.heap[b]?) : ∃ ao cap, v = .slice ao m cap ∧ m ≤ cap ∧ RowAt H ao 0 xs := by
 have hc := fun b (hb : v.ownBlock = some b) => h.cells (g := b) hb
 rcases h.2 with ⟨rfl, rfl⟩ | ⟨b, cap, cur, rfl, hb, hg, hle, _⟩
 · refine ⟨none, 0, rfl, Nat.le_refl _, fun j u e => ?_⟩
   have : xs = [] := List.eq_nil_of_length_eq_zero (by simpa using h.1)
   rw [this] at e
   simp at e
 · refine ⟨some ⟨b, 0, none⟩, cap, rfl, hle, fun j u e => ⟨⟨b, 0, none⟩, rfl, ?_⟩⟩
   have h1 := hc b rfl j u e
   rw [Nat.zero_add]
   rw [addr_add] at h1 ⊢
   unfold World.cell? at h1
   unfold cellH
   rw [hH b rfl]
   exact h1
theorem row_slice {T : TypeId} {sz m cap : Nat} {ao : Option Addr} {xs : List Value} {base : Nat} {H : Heap} (h : w.ownsRow base T sz (.slice ao m cap) m xs) (hH : ∀ b, (Value.slice ao m cap).ownBlock = some b → H b = w.heap[b]?) : m ≤ cap ∧ RowAt H ao 0 xs := by
 obtain ⟨ao', cap', e1, e2, e3⟩ := row_at h hH
 injection e1 with e1 e4 e5
 subst e1
 subst e5
 exact ⟨e2, e3⟩
theorem St.ret_row {α : Type} {E : Enc α} {l : List α} (h : St w0 H0 ms H w) {i : Nat} {T : TypeId} {sz cap : Nat} {ao : Option Addr} {xs : List Value} (hi : ms[i]? = some (.row T sz l.length (.slice ao l.length cap) xs)) (hR : RL H E l xs) :
 SL (newer w0 w H0) E ao l ∧ l.length ≤ cap := by
 have hm := List.mem_of_getElem? hi
 obtain ⟨e2, e3⟩ := row_slice (H := newer w0 w H0) (h.sat _ hm) (fun b hb => by unfold newer; rw [if_neg (by have := (h.own _ hm b hb).1; omega)])
 exact ⟨(hR.mono h.le_newer).row e3, e2⟩
theorem St.row_held {α : Type} {E : Enc α} {l : List α} {T : TypeId} {sz cap : Nat} {ao : Option Addr} {xs : List Value} (h : St w0 H0 (.row T sz l.length (.slice ao l.length cap) xs :: ms) H w) (hR : RL H E l xs) :
 ∃ H', l.length ≤ cap ∧ Le H H' ∧ SL H' E ao l ∧ St w0 H0 ms H' w := by
 have hs := h.sat _ (List.mem_cons_self ..)
 obtain ⟨e2, e3⟩ := row_slice (H := fun b => if (Ent.row T sz l.length (.slice ao l.length cap) xs).at = some b then w.heap[b]? else H b) hs (fun b hb => if_pos hb)
 exact ⟨_, e2, freeze_le h, (hR.mono (freeze_le h)).row e3, h.freeze⟩
theorem St.row_arg {α : Type} {E : Enc α} {l : List α} (h : St w0 H0 ms H w) {i : Nat} {T : TypeId} {sz cap : Nat} {ao : Option Addr} {xs : List Value} (hi : ms[i]? = some (.row T sz l.length (.slice ao l.length cap) xs)) (hR : RL H E l xs) :
 SL (hp w) E ao l ∧ l.length ≤ cap := by
 obtain ⟨e2, e3⟩ := row_slice (H := hp w) (h.sat _ (List.mem_of_getElem? hi)) (fun b _ => rfl)
 exact ⟨(hR.mono h.hold).row e3, e2⟩
theorem St.nilrow (h : St w0 H0 ms H w) (T : TypeId) (sz : Nat) : St w0 H0 (.row T sz 0 (.slice none 0 0) [] :: ms) H w :=
 h.push (Below.refl _ _) (World.ownsRow_nil w _ T sz) (fun b hb => by simp [Ent.at, Value.ownBlock] at hb)
end

theorem os_app {α : Type} {P : Program} {n : Nat} {o : Oper} {g : Frm} {w0 : World} {H0 H : Heap} {ms : List Ent} {En : Enc α} {l r x : List α} {T E : TypeId} {p q : Operand} {i j c bytes : Nat} {z v : Value} {b : Nat} {xs ys : List Value} {K : Value → Pred → Prop} (hT : P.underlying T = some (.slice E)) (hI : (P.info? E).map (fun i => (i.zero, i.size, i.bytes)) = some (some z, En.size, bytes)) (hz : z.cells.size = En.size) (hsz : 0 < En.size)
 (h : o.op = .call { callee := .builtin .append, args := #[p, q], argTypes := #[T, T] }) (hx : ev g p = some v) (hy : ev g q = some (.slice (some ⟨b, 0, none⟩) r.length c)) (hi : ms[i]? = some (.row E En.size l.length v xs)) (hj : ms[j]? = some (.row E En.size r.length (.slice (some ⟨b, 0, none⟩) r.length c) ys)) (h1 : ys.all (·.oneCell') = true)
 (hR : RL H En l xs) (hR' : RL H En r ys) (hm : appO bytes l r = some x)
 (kk : ∀ ao cap, RL H En (l ++ r) (xs ++ ys) → K (.slice ao (l ++ r).length cap) (St w0 H0 (ms.set i (.row E En.size (l ++ r).length (.slice ao (l ++ r).length cap) (xs ++ ys))) H)) : OS P n o g (St w0 H0 ms H) K :=
 fun a w f s next Q hn => os_append (ms := ms) (K := fun v' S' => ∃ ao cap, v' = .slice ao (l ++ r).length cap ∧ S' = St w0 H0 (ms.set i (.row E En.size (l ++ r).length (.slice ao (l ++ r).length cap) (xs ++ ys))) H) hT hI hz hsz h hx hy hi hj h1 (appO_some hm).1.1 (appO_some hm).1.2 (fun v' hv => by
  obtain ⟨ao, cap, rfl⟩ := hv
  rw [← List.length_append]
  exact ⟨ao, cap, rfl, rfl⟩) a w f s next Q (fun v' S' w' ⟨ao, cap, e1, e2⟩ s' => by subst e1; subst e2; exact hn _ _ w' (kk ao cap (hR.append hR')) s')
theorem ov_sadd' {P : Program} {n : Nat} {o : Oper} {g : Frm} {S : Pred} {T T' : TypeId} {x y : Operand} {s t r : List UInt8} (hm : catO s t = some r) (h : o.op = .binOp .add T x y T') (hx : ev g x = some (mkS s)) (hy : ev g y = some (mkS t)) : OV P n o g S (mkS r) := by
 obtain ⟨h1, rfl⟩ := catO_some hm
 exact ov_sadd h hx hy h1
theorem ov_convert_rune' {P : Program} {n : Nat} {o : Oper} {g : Frm} {S : Pred} {A B : TypeId} {x : Operand} {k : IntKind} {i : Int} {d : TypeDesc} (hA : P.underlying A = some d) (hB : P.underlying B = some .string) (h : o.op = .convert A B x) (hx : ev g x = some (.int k i)) :
 OV P n o g S (mkS (Utf8.encode i).data.toList) := by rw [mkS_data]; exact ov_convert_rune hA hB h hx
theorem ov_indexAddr_glob {P : Program} {n : Nat} {o : Oper} {g : Frm} {S : Pred} {T E : TypeId} {x y : Operand} {b m s : Nat} {kk : IntKind} {i : Int} (hT : P.underlying T = some (.array m E)) (hs : ∀ w, (sizeOf E).run P w = .ok s w) (h : o.op = .indexAddr T x y) (hx : ev g x = some (pB b 0)) (hy : ev g y = some (.int kk i)) (h0 : 0 ≤ i) (h1 : i < m) :
 OV P n o g S (pE (some ⟨b, 0, none⟩) (i.toNat * s)) := by
 have := ov_indexAddr_arr (P := P) (n := n) (S := S) hT hs h hx hy h0 h1
 unfold pB at this
 unfold pE
 simp only [Option.getD_some, addr_add]
 exact this

section
variable {P : Program} {d : Nat} {xs ys : Array Value}
theorem part_one {t : TypeId} {cs : Array Value} {off : Nat} {v : Value} (hA : ∀ w, (isAgg t).run P w = .ok false w) (h : cs[off]? = some v) (w : World) : (part t cs off).run P w = .ok v w := by
 simp [part, hA, h]
theorem eqFields_cons {f : Field} {fs : List Field} {a b : Value} {c r : Bool} (hn : f.name ≠ "_") (ha : ∀ w, (part f.type xs f.offset).run P w = .ok a w) (hb : ∀ w, (part f.type ys f.offset).run P w = .ok b w)
 (hc : ∀ w, (Op.equalIn d f.type a b).run P w = .ok c w) (hr : ∀ w, (Op.eqFields d xs ys fs).run P w = .ok r w) (w : World) : (Op.eqFields d xs ys (f :: fs)).run P w = .ok (c && r) w := by
 simp only [Op.eqFields]
 rw [if_pos hn]
 simp only [Sem.run_bind, ha, hb, hc, Result.andThen_ok]
 cases c <;> simp [hr]
theorem ov_eql_struct {n : Nat} {o : Oper} {g : Frm} {S : Pred} {x y : Operand} {T T' : TypeId} {c : Bool} (hG : P.eqGuardType P.depth T = false) (hp : P.stoodInHeld T = false) {fs : List Field} (hT : P.underlying T = some (.struct fs.toArray))
 (hF : ∀ w, (Op.eqFields 9999 xs ys fs).run P w = .ok c w) (h : o.op = .binOp .eql T x y T') (hx : ev g x = some (.agg xs)) (hy : ev g y = some (.agg ys)) : OV P n o g S (.bool c) := fun a w f _ => by
 have hf : P.fieldsOf T = fs.toArray := by simp [Program.fieldsOf, hT]
 have h1 := run_equalIn_agg (P := P) w 9999 T xs ys (by rw [hf]; exact hT) hp
 rw [hf, List.toList_toArray] at h1
 rw [hF w] at h1
 have h2 := run_eql_struct (P := P) w T xs ys
 rw [h1] at h2
 have h3 := run_eqGuard_agg (P := P) w .eql T x y xs ys hG
 simp only [execOp, h, f.eval hx, f.eval hy, Sem.run_bind, h3, Result.andThen_ok, h2, Sem.run_pure]
theorem eqIn_int {t : TypeId} {k k' : IntKind} {a b : Int} (h : P.underlying t = some (.int k')) (w : World) : (Op.equalIn (9998 + 1) t (.int k a) (.int k b)).run P w = .ok (a == b) w := run_equalIn_int w 9998 t k k' a b h
end

def Con (P : Program) (F : FuncId) (vs : List Value) (w : World) (H : Heap) (R : Value → Heap → Prop) : Prop :=
 Calls P F vs.toArray w fun e w' => ∃ r, e = .returned r ∧ Below w.heap.size w w' ∧ R r (newer w w' H)
theorem Con.mono {P : Program} {F : FuncId} {vs : List Value} {w : World} {H : Heap} {R R' : Value → Heap → Prop} (h : Con P F vs w H R) (k : ∀ r H', R r H' → R' r H') : Con P F vs w H R' :=
 Calls.mono h fun _ _ ⟨r, h1, h2, h3⟩ => ⟨r, h1, h2, k _ _ h3⟩
theorem con_of {P : Program} {f : FuncId} {fn : Func} {c : Code} {vs : List Value} {w : World} {H : Heap} {R : Value → Heap → Prop} (hH : Le H (hp w))
 (hf : P.funcs[f]? = some fn) (hb : fn.body = some c) (n : Nat) (hnt : fn.ntmps = n) (hn : Nat.ble vs.length n = true)
 (h : WP Fence.wide P n c (argFrm 0 vs) (St w H [] H) (retQ n fn P fun v w' => Below w.heap.size w w' ∧ R v (newer w w' H))) (hm : Nat.ble vs.length markKey = true := by rfl) : Con P f vs w H R :=
 calls_of (St w H [] H) (St.start w H hH) hf hb n hnt hn h hm
section
variable {P : Program} {n : Nat} {o : Oper} {g : Frm} {S : Pred}
theorem os_callv {F : FuncId} {fx : Operand} {cap : Array Value} {xs : List Operand} {ats : Array TypeId} {vs : List Value} {K : Value → Pred → Prop} (hc : ∀ args w, (callFunc F args).run P w = .ok (.enter F args) w) (h : o.op = .call { callee := .value fx, args := xs.toArray, argTypes := ats })
 (hf : ev g fx = some (.func (.func F) #[] cap)) (hx : evs g xs = some vs) (hk : ∀ w, S w → Calls P F (vs.toArray ++ cap) w fun e w' => ∃ r S', e = .returned r ∧ K r S' ∧ S' w') : OS P n o g S K := fun a w f s next Q hn => by
 have hr : (execOp a.eval o).run P w = .ok (.enter F (vs.toArray ++ cap)) w := by
  simp [execOp, h, resolve, invoke, f.eval hf, Deferred.ofValue, evs_arr hx a f, hc]
 unfold Oper.wp
 rw [hr]
 exact (hk w s).mono fun e w' ⟨r, S', he, hK, hS⟩ => by subst he; exact hn _ _ _ hK hS
theorem os_inline {F : FuncId} {fn : Func} {c : Code} {fx : Operand} {cap : List Value} {xs : List Operand} {ats : Array TypeId} {vs : List Value} {K : Value → Pred → Prop} (hc : ∀ args w, (callFunc F args).run P w = .ok (.enter F args) w) (h : o.op = .call { callee := .value fx, args := xs.toArray, argTypes := ats })
 (hv : ev g fx = some (.func (.func F) #[] cap.toArray)) (hx : evs g xs = some vs) (hf : P.funcs[F]? = some fn) (hb : fn.body = some c) (m : Nat) (hnt : fn.ntmps = m) (hn : Nat.ble (vs ++ cap).length m = true)
 (k : ∀ w, S w → WP Fence.wide P m c (argFrm 0 (vs ++ cap)) S (retQ m fn P fun v w' => ∃ S', K v S' ∧ S' w')) (hm : Nat.ble (vs ++ cap).length markKey = true := by rfl) : OS P n o g S K :=
 os_callv hc h hv hx fun w s => by
  have := calls_of (w := w) S s hf hb m hnt hn (k w s) hm
  rw [List.append_toArray]
  exact Calls.mono this fun e w' ⟨v, he, S', h1, h2⟩ => ⟨v, S', he, h1, h2⟩
theorem ov_makeFunc' {fn : Fn} {first captured : List Operand} {vs us : List Value} (h : o.op = .makeFunc fn first.toArray captured.toArray) (hf : evs g first = some vs) (hc : evs g captured = some us) : OV P n o g S (.func fn vs.toArray us.toArray) :=
 ov_makeFunc h (evs_arr hf) (evs_arr hc)
end
section
variable {P : Program} {n : Nat} {o : Oper} {g : Frm} {w0 : World} {H0 H : Heap} {ms : List Ent}
theorem oq_con {F : FuncId} {xs : List Operand} {ats : Array TypeId} {vs : List Value} {r : Value} (hc : ∀ args w, (callFunc F args).run P w = .ok (.enter F args) w) (h : o.op = .call { callee := .value (.func F), args := xs.toArray, argTypes := ats })
 (hx : evs g xs = some vs) (hk : ∀ w, St w0 H0 ms H w → ∃ H', Con P F vs w H' fun v _ => v = r) : OQ P n o g (St w0 H0 ms H) r :=
 oq_call hc h (evs_arr hx) fun w s => by
  obtain ⟨H', hk⟩ := hk w s
  exact Calls.mono hk fun e w' ⟨v, h1, h2, h3⟩ => by subst h3; exact ⟨h1, s.grow h2⟩
theorem os_con {F : FuncId} {xs : List Operand} {ats : Array TypeId} {vs : List Value} {R : Value → Heap → Prop} {K : Value → Pred → Prop} (hc : ∀ args w, (callFunc F args).run P w = .ok (.enter F args) w) (h : o.op = .call { callee := .value (.func F), args := xs.toArray, argTypes := ats })
 (hx : evs g xs = some vs) (hk : ∀ w, St w0 H0 ms H w → Con P F vs w H R) (k : ∀ r H', Le H H' → R r H' → K r (St w0 H0 ms H')) : OS P n o g (St w0 H0 ms H) K :=
 os_call hc h (evs_arr hx) fun w s => Calls.mono (hk w s) fun e w' ⟨v, h1, h2, h3⟩ => ⟨v, _, h1, k v _ (newer_le s) h3, s.gain h2⟩
end
section
variable {P : Program} {n : Nat} {w0 : World} {H0 H : Heap} {ms : List Ent} {α : Type} {E : Enc α} {l : List α} {T : TypeId} {sz cap : Nat} {ao : Option Addr} {xs : List Value}
theorem WL.held {F : Fence} {ops : Array Oper} {L : List Oper} {g : Frm} {K : Frm → Pred → Prop} (hR : RL H E l xs) (k : ∀ H', l.length ≤ cap → Le H H' → SL H' E ao l → WL F P n ops L g (St w0 H0 ms H') K) :
 WL F P n ops L g (St w0 H0 (.row T sz l.length (.slice ao l.length cap) xs :: ms) H) K := fun a w f s => by
 obtain ⟨H', h1, h2, h3, h4⟩ := s.row_held hR
 exact k H' h1 h2 h3 a w f h4
theorem WP.held {F : Fence} {c : Code} {g : Frm} {Q : Exit → Frm → Pred → Prop} (hR : RL H E l xs) (k : ∀ H', l.length ≤ cap → Le H H' → SL H' E ao l → WP F P n c g (St w0 H0 ms H') Q) :
 WP F P n c g (St w0 H0 (.row T sz l.length (.slice ao l.length cap) xs :: ms) H) Q := fun a w f s => by
 obtain ⟨H', h1, h2, h3, h4⟩ := s.row_held hR
 exact k H' h1 h2 h3 a w f h4
theorem St.box_held {w : World} {b : Nat} {Tb : TypeId} {cs : List Value} (h : St w0 H0 (.blk b Tb cs :: ms) H w) : ∃ H', Le H H' ∧ (∀ j u, cs[j]? = some u → cellH H' ⟨b, j, none⟩ = some u) ∧ St w0 H0 ms H' w := by
 have hs := h.sat _ (List.mem_cons_self ..)
 refine ⟨_, freeze_le h, fun j u e => ?_, h.freeze⟩
 simp only [Ent.sat] at hs
 unfold cellH
 simp only [Ent.at, if_true]
 rw [hs]
 simp [e]
theorem WL.box_held {F : Fence} {ops : Array Oper} {L : List Oper} {g : Frm} {K : Frm → Pred → Prop} {b : Nat} {Tb : TypeId} {cs : List Value} (k : ∀ H', Le H H' → (∀ j u, cs[j]? = some u → cellH H' ⟨b, j, none⟩ = some u) → WL F P n ops L g (St w0 H0 ms H') K) :
 WL F P n ops L g (St w0 H0 (.blk b Tb cs :: ms) H) K := fun a w f s => by
 obtain ⟨H', h1, h2, h3⟩ := s.box_held
 exact k H' h1 h2 a w f h3
end
theorem RL.cons {α : Type} {H : Heap} {E : Enc α} {x : α} {l : List α} {cs xs : List Value} (h : E.rep H x cs) (k : RL H E l xs) : RL H E (x :: l) (cs ++ xs) := (RL.one h).append k
def bytesI (s : List UInt8) : List Int := s.map fun b => (b.toNat : Int)
section
variable {P : Program} {n : Nat} {o : Oper} {g : Frm} {S : Pred} {w0 : World} {ms : List Ent} {H0 H : Heap}
theorem os_bytes {A B e : TypeId} {x : Operand} {s : List UInt8} {K : Value → Pred → Prop} (hA : P.underlying A = some .string) (hB : P.underlying B = some (.slice e)) (he : P.underlying e = some (.int .u8)) (h : o.op = .convert A B x) (hx : ev g x = some (mkS s))
 (k : ∀ ao cap H', Le H H' → SL H' (encInt .u8) ao (bytesI s) → (bytesI s).length ≤ cap → K (.slice ao (bytesI s).length cap) (St w0 H0 ms H')) : OS P n o g (St w0 H0 ms H) K := fun a w f st next Q hn => by
 have hl : (bytesI s).length = s.length := by simp [bytesI]
 have hsz : (ByteArray.mk s.toArray).size = s.length := by simp [ByteArray.size]
 have hc := run_bytes_of_string (P := P) w A B e ⟨s.toArray⟩ hA hB he
 rw [hsz] at hc
 have hr : (execOp a.eval o).run P w = .ok (.value (.slice (some ⟨w.heap.size, 0, none⟩) s.length (grownCap w s.length 0 e))) (w.drew.alloc (.cells (bytesRow ⟨s.toArray⟩ (grownCap w s.length 0 e)) e ((bytesRow ⟨s.toArray⟩ (grownCap w s.length 0 e)).size, (bytesRow ⟨s.toArray⟩ (grownCap w s.length 0 e)).size + 1))) := by
  simp only [execOp, h, f.eval hx, mkS, Sem.run_bind, hc, Result.andThen_ok, Sem.run_pure]
 unfold Oper.wp
 rw [hr]
 have hb : Below w.heap.size w (w.drew.alloc (.cells (bytesRow ⟨s.toArray⟩ (grownCap w s.length 0 e)) e ((bytesRow ⟨s.toArray⟩ (grownCap w s.length 0 e)).size, (bytesRow ⟨s.toArray⟩ (grownCap w s.length 0 e)).size + 1))) :=
  ((Below.refl _ _).drew).alloc (Nat.le_refl _) _
 have K0 := k
 rw [hl] at K0
 have hcap : s.length ≤ grownCap w s.length 0 e := grownCap_ge w _ _ _
 refine hn _ _ _ (K0 (some ⟨w.heap.size, 0, none⟩) (grownCap w s.length 0 e) _ (newer_le st) (fun i x hx => ?_) hcap) (st.gain hb)
 refine ⟨_, rfl, fun j u hu => ?_⟩
 cases j with
 | succ j => simp at hu
 | zero =>
  simp at hu
  subst hu
  refine ⟨_, rfl, ?_⟩
  rw [addr_add]
  unfold cellH newer
  simp only [show ¬ w.heap.size < w.heap.size from Nat.lt_irrefl _, if_false]
  have hnew : (w.drew.alloc (.cells (bytesRow ⟨s.toArray⟩ (grownCap w s.length 0 e)) e ((bytesRow ⟨s.toArray⟩ (grownCap w s.length 0 e)).size, (bytesRow ⟨s.toArray⟩ (grownCap w s.length 0 e)).size + 1))).heap[w.heap.size]? = some (.cells (bytesRow ⟨s.toArray⟩ (grownCap w s.length 0 e)) e ((bytesRow ⟨s.toArray⟩ (grownCap w s.length 0 e)).size, (bytesRow ⟨s.toArray⟩ (grownCap w s.length 0 e)).size + 1)) := by
   show (w.heap.push _)[w.heap.size]? = _
   simp
  rw [hnew]
  unfold bytesI at hx
  rw [List.getElem?_map] at hx
  cases hsi : s[i]? with
  | none => rw [hsi] at hx; cases hx
  | some b =>
   rw [hsi] at hx
   cases hx
   have hlt := (List.getElem?_eq_some_iff.1 hsi).1
   simp [bytesRow, encInt, Enc.flat, Array.getElem?_append, hlt, hsi, List.getElem?_eq_getElem hlt] at hsi ⊢
   rw [hsi]
theorem ov_indexAddr_globL {α : Type} {l : List α} {T E : TypeId} {x y : Operand} {b m s : Nat} {kk : IntKind} {i : Int} (hl : l.length = m) (hT : P.underlying T = some (.array m E)) (hs : ∀ w, (sizeOf E).run P w = .ok s w) (h : o.op = .indexAddr T x y) (hx : ev g x = some (pB b 0)) (hy : ev g y = some (.int kk i)) (h0 : 0 ≤ i) (h1 : i < l.length) :
 OV P n o g S (pE (some ⟨b, 0, none⟩) (i.toNat * s)) := ov_indexAddr_glob hT hs h hx hy h0 (by rw [← hl]; exact h1)
theorem ov_neq_nilI {T T' : TypeId} {x : Operand} {c : Value} (hT : P.underlying T = some (.interface (P.methodsAt T))) (h : o.op = .binOp .neq T x (.const c) T') (hx : ev g x = some .nilIface) (hc : ev g (.const c) = some .nilIface) : OV P n o g S (.bool false) := fun a w f _ => by
 simp only [execOp, h, f.eval hx, f.eval hc, Sem.run_bind, eqGuard_nil_constR, Sem.run_pure, Result.andThen_ok, run_neq_nil_nil w T hT]
end
end Go.Proofs.YtkgijoddkibapaaGreatDoor.W
