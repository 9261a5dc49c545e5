/- Our own calculus, thirteenth part: functions against nil; regions that draw, inside a round. A general text: it names no program. -/
import Derived.Test.YtbiifgojhljkjaaGreatDoorLibL
import Derived.OrdersIn
set_option linter.unusedVariables false
set_option linter.unusedSimpArgs false
namespace Go.Proofs.YtbiifgojhljkjaaGreatDoor.W
open Go Go.RowKit
theorem eqGuard_fn {op : BinOp} {t : TypeId} {x y : Operand} {f : Fn} {a c : Array Value} : eqGuard op t x y (.func f a c) .nilFunc = pure () := by
  unfold eqGuard
  cases op <;> simp
theorem eqGuard_nofn {op : BinOp} {t : TypeId} {x y : Operand} : eqGuard op t x y .nilFunc .nilFunc = pure () := by
  unfold eqGuard
  cases op <;> simp
section
variable {F : Fence} [Free F] {P : Program} {n : Nat} {o : Oper}
theorem Oper.wpIn_plain {a : Act} {w : World} {next : Act → World → Prop} {Q : Exit → Act → World → Prop} (hd : ∀ c, o.op ≠ .defer c) (h : o.wp P a w next Q) : o.wpIn F 0 P a w next Q := by
  refine ⟨fun f _ => Free.fn f, ?_⟩
  unfold Oper.wp at h
  have hs : (o.semAt F.round a.eval).run P w = (execOp a.eval o).run P w := by rw [Oper.semAt_eq _ _ _ hd]
  rw [hs]
  generalize (execOp a.eval o).run P w = r at h ⊢
  cases r with
  | ok x w' =>
    cases x <;> simp only [Oper.upon] at h <;> simp only [Oper.uponIn]
    case value u => exact h
    case skip => exact h
    case defer d => exact h
    case enter f args =>
      refine ⟨fun q => (by rw [Free.depth] at q; cases q), Free.calls (Calls.mono h fun e w'' he => ?_)⟩
      cases e with
      | returned v => exact he
      | panicked c => exact he
      | outgrown => exact he
    case row row args => exact ⟨fun q => (by rw [Free.depth] at q; cases q), Free.rows (Rows.mono h fun u w'' he => he)⟩
  | halt x w' =>
    cases x <;> simp only [Oper.upon] at h <;> simp only [Oper.uponIn]
    case panic u => exact h
def calmN (Q : Exit → Act → World → Prop) : Exit → Act → World → Prop
  | .normal, a, w => Q .normal a w
  | _, _, _ => False
def noDefer (l : List Oper) : Bool := l.all fun o => match o.op with | .defer _ => false | _ => true
theorem noDefer_at {l : List Oper} (h : noDefer l = true) {i : Nat} {o : Oper} (hi : l.toArray[i]? = some o) : ∀ c, o.op ≠ .defer c := fun c hc => by
  have := List.all_eq_true.1 h o (List.mem_of_getElem? (by simpa using hi))
  rw [hc] at this
  cases this
theorem wpAnyIn_of {ops : Array Oper} {Q : Exit → Act → World → Prop} (hd : ∀ (i : Nat) (o : Oper), ops[i]? = some o → ∀ c, o.op ≠ .defer c) (hQ : ¬ LetsOut Q) : ∀ (fuel : Nat) (listed : Array Bool) (a : Act) (w : World), wpAny P .any ops Q fuel listed a w → wpAnyIn F 0 P .any ops Q fuel listed a w
  | 0, _, _, _, h => h
  | fuel + 1, listed, a, w, h => by
    refine ⟨h.1, fun i hi => ?_⟩
    have h2 := h.2 i hi
    unfold wpOp at h2
    unfold wpOpIn
    cases ho : ops[i]? with
    | none => rw [ho] at h2; exact wpAnyIn_of hd hQ fuel _ _ _ h2
    | some o =>
      rw [ho] at h2
      dsimp only at h2 ⊢
      split
      · rename_i hw
        rw [if_pos hw] at h2
        rcases h2 with h2 | h2
        · exact Oper.wpIn_mono (fun a' w' k => wpAnyIn_of hd hQ fuel _ a' w' k) (Oper.wpIn_plain (hd i o ho) h2)
        · exact absurd h2.2 hQ
      · rename_i hw
        rw [if_neg hw] at h2
        exact ⟨fun f _ => Free.fn f, wpAnyIn_of hd hQ fuel _ _ _ h2⟩
theorem calmN_out (Q : Exit → Act → World → Prop) : ¬ LetsOut (calmN Q) := fun ⟨_, _, h⟩ => h
theorem WP.region_anyF {g : Frm} {S S₀ : Pred} {Q : Exit → Frm → Pred → Prop} {id : Nat} {l : List Oper} (N : Nat) (hN : l.length = N) (hnd : noDefer l = true) (hm : P.follows .mixedOrders = true) (h0 : ∀ w, S w → S₀ w) (hd : ∀ w, S w → S w.drew)
    (h : AL P n l.toArray S₀ N (Array.replicate N false) g S fun g' S' => Q .normal g' S') : WP F P n (.region id l.toArray true) g S Q := fun a w f s => by
  subst hN
  refine Code.wpIn_mono (Q := calmN (fun e a' w' => ∃ g' S', Fits n g' a' ∧ S' w' ∧ Q e g' S')) (fun e a w hq => by cases e <;> first | exact hq | exact (hq : False).elim) ?_
  refine wpIn_region_any hm (wpAnyIn_of (fun i o hi => noDefer_at hnd hi) (calmN_out _) _ _ _ _ (wpAny_of_held (S := S₀) _ _ _ _ ?_))
  rw [List.size_toArray]
  refine h a w.drew f (hd w s) (h0 _ (hd w s)) _ (fun c a d v w hq => hq) fun g' S' a' w' hq hf hs => ?_
  exact ⟨g', S', hf, hs, hq⟩
theorem WP.region_drawsF {g : Frm} {S : Pred} {Q : Exit → Frm → Pred → Prop} {id : Nat} {l : List Oper} (hnd : noDefer l = true) (hm : P.follows .mixedOrders = true) (hB : Region.lexB .any l.toArray = true) (hd : ∀ w, S w → S w.drew)
    (h : QL P n l.toArray S l g fun g' => Q .normal g' S) : WP F P n (.region id l.toArray true) g S Q := fun a w f s => by
  refine Code.wpIn_mono (Q := calmN (fun e a' w' => ∃ g' S', Fits n g' a' ∧ S' w' ∧ Q e g' S')) (fun e a w hq => by cases e <;> first | exact hq | exact (hq : False).elim) ?_
  refine wpIn_region_any hm (wpAnyIn_of (fun i o hi => noDefer_at hnd hi) (calmN_out _) _ _ _ _ ?_)
  simp only [Region.lexB, Bool.and_eq_true] at hB
  refine wpAny_of_quiet (C := S) (Q := fun a' => ∀ w', S w' → ∃ g' S', Fits n g' a' ∧ S' w' ∧ Q .normal g' S') (fun _ w' hw' h => h w' hw') _ _ _ _ (hd w s) ?_
  have hq := h a f (fun a' => ∀ w', S w' → ∃ g' S', Fits n g' a' ∧ S' w' ∧ Q .normal g' S') (fun g' a' hq hf w' hs => ⟨g', S, hf, hs, hq⟩)
  have := wpAnyQ_lex (C := S) (md := .any) hB.1 l.toArray.toList 0 (Array.replicate l.toArray.size false) a (by simp) (by simpa using hB.2) (by simpa using hq)
  simpa using this
end
end Go.Proofs.YtbiifgojhljkjaaGreatDoor.W
