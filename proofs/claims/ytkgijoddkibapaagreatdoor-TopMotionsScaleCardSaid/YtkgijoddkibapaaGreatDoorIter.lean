import Derived.Test.YtkgijoddkibapaaGreatDoorSteps
import Derived.Test.YtkgijoddkibapaaGreatDoorWalk14
set_option linter.unusedVariables false
set_option linter.unusedSimpArgs false
set_option maxRecDepth 100000
set_option maxHeartbeats 4000000
namespace Go.Proofs.YtkgijoddkibapaaGreatDoor.W
open Go Go.RowKit
section
variable {P : Program} {w0 : World} {H0 H : Heap} {tl : List Ent}
theorem viter_of {yv : Value} {σ X : Type} {E : X → List Value → Heap → Prop} {step : σ → X → Option (Bool × σ)} {T T' : σ → Heap → List Ent → Prop} {hY : Yields P w0 H0 yv E step T T'} {r : Bool × σ} {v : Value} {F : FuncId} {cap : List Value}
    (hv : v = .func (.func F) #[] cap.toArray) (hc : ∀ args w, (callFunc F args).run P w = .ok (.enter F args) w)
    (hk : ∀ fr, BCon P F ([yv] ++ cap) w0 H0 (fr ++ tl) H (fun v H' ms' => v = .tuple #[] ∧ IterR hY fr r H' ms')) : VIter P w0 H0 v hY tl H r := fun fr w s =>
  ⟨F, cap, hv, hc, Calls.mono (hk fr w s) fun e w' ⟨rv, H', ms', h1, h2, h3, h4⟩ => ⟨rv, H', ms', h1, h2, h3.2, h4⟩⟩
end
theorem iterRun_all {σ : Type} {w0 : World} {H0 : Heap} (n : Nat) : ∀ (stp : σ → Step → Option (Bool × σ)) {y : Value} {T T' : σ → Heap → List Ent → Prop} (hY : Yields Tryz.prog w0 H0 y encSeqStep stp T T') (m : Motion) (on : List (List UInt8)) (z : σ) (v : Value) (H : Heap) (hI : IterRep H m on v) (hG : Glob H) (tl : List Ent) (hT : TH hY z H tl) (r : Bool × σ) (hm : iterRun n stp m on z = some r), VIter Tryz.prog w0 H0 v hY tl H r := by
  induction n with
  | zero => intro stp y T T' hY m on z v H hI hG tl hT r hm; cases hm
  | succ n ih =>
    intro stp y T T' hY m on z v H hI hG tl hT r hm
    cases m with
    | single s =>
      obtain ⟨b, ao, cap, rfl, h1, h2, h3⟩ := hI
      have hm' : program_single_steps_1 stp (MSingle.mk s) z = some r := by simpa [iterRun, Motion.isSingle, Motion.stp] using hm
      exact viter_of (cap := [pB b 0]) rfl Tryz.call172 (fun fr => program_single_steps_1_con stp hY (MSingle.mk s) z b ao cap fr tl H h2 h3 h1 hT hG r hm')
    | list l =>
      obtain ⟨b, b2, ao, cap, ao2, cap2, rfl, h1, h2, h3, h4, h5, h6⟩ := hI
      have hm' : program_list_steps_1 stp (iterRun n) (MList.mk l) on z = some r := by simpa [iterRun, Motion.isSingle, Motion.isList, Motion.prts] using hm
      exact viter_of (cap := [pB b 0, pB b2 0]) rfl Tryz.call174 (fun fr => program_list_steps_1_con stp hY (iterRun n) ih (MList.mk l) on z b ao cap b2 ao2 cap2 fr tl H h3 h4 h5 h6 h1 h2 hT hG r hm')
    | repeat_ k p =>
      obtain ⟨b, b2, t, c, ao2, cap2, rfl, h1, h2, h3, h4, h5⟩ := hI
      have hm' : program_repeat_steps_1 stp (iterRun n) (MRepeat.mk k p) on z = some r := by simpa [iterRun, Motion.isSingle, Motion.isList, Motion.isRepeat, Motion.cnt, Motion.prt] using hm
      exact viter_of (cap := [pB b 0, pB b2 0]) rfl Tryz.call176 (fun fr => program_repeat_steps_1_con stp hY (iterRun n) ih (MRepeat.mk k p) on z b t c b2 ao2 cap2 fr tl H h3 h4 h5 h1 h2 hT hG r hm')
    | choice nm a b => exact hI.elim
theorem iterRun_con {σ : Type} (stp : σ → Step → Option (Bool × σ)) {w0 : World} {H0 : Heap} {y : Value} {T T' : σ → Heap → List Ent → Prop} (hY : Yields Tryz.prog w0 H0 y encSeqStep stp T T') (n : Nat) (m : Motion) (on : List (List UInt8)) (z : σ) (v : Value) (H : Heap) (hI : IterRep H m on v) (hG : Glob H) (tl : List Ent) (hT : TH hY z H tl) (r : Bool × σ) (hm : iterRun n stp m on z = some r) : VIter Tryz.prog w0 H0 v hY tl H r :=
  iterRun_all n stp hY m on z v H hI hG tl hT r hm
end Go.Proofs.YtkgijoddkibapaaGreatDoor.W
