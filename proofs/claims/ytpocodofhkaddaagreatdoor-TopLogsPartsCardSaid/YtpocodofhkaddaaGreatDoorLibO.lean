/- Our own calculus, fourteenth part: make; arrays in boxes cut into slices. A general text: it names no program. -/
import Derived.Test.YtpocodofhkaddaaGreatDoorLibM
import Derived.Laws.MakeOwn
set_option linter.unusedVariables false
set_option linter.unusedSimpArgs false
namespace Go.Proofs.YtpocodofhkaddaaGreatDoor.W
open Go Go.RowKit
section
variable {P : Program} {n : Nat} {o : Oper} {g : Frm} {w0 : World} {ms : List Ent} {H0 H : Heap}
theorem OS.weaken {S S₁ : Pred} {K : Value → Pred → Prop} (k : ∀ w, S w → S₁ w) (h : OS P n o g S₁ K) : OS P n o g S K := fun a w f s => h a w f (k w s)
/-- a row that is held for good, ahead of an operation -/
theorem OS.held {α : Type} {E : Enc α} {l : List α} {T : TypeId} {sz cap : Nat} {ao : Option Addr} {xs : List Value} {K : Value → Pred → Prop} (hR : RL H E l xs) (k : ∀ H', l.length ≤ cap → Le H H' → SL H' E ao l → OS P n o g (St w0 H0 ms H') K) :
    OS P n o g (St w0 H0 (.row T sz l.length (.slice ao l.length cap) xs :: ms) H) K := fun a w f s => by
  obtain ⟨H', h1, h2, h3, h4⟩ := s.row_held hR
  exact k H' h1 h2 h3 a w f h4
end
section
variable {P : Program} {n : Nat} {o : Oper} {g : Frm} {w0 : World} {ms : List Ent} {H0 H : Heap}
end
/-! ### arrays of bools held against each other -/
end Go.Proofs.YtpocodofhkaddaaGreatDoor.W
