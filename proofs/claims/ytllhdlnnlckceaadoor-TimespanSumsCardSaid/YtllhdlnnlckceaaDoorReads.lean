/- What the laws' arguments read as. Written by our own program card.py; Lean checks it. -/
import Derived.Test.YtllhdlnnlckceaaDoorLibG
import Derived.Test.YtllhdlnnlckceaaDoorTypes
import Derived.Test.YtllhdlnnlckceaaDoorProg
set_option linter.unusedVariables false
set_option maxRecDepth 100000
namespace Go.Proofs.YtllhdlnnlckceaaDoor.W
open Go Go.RowKit Go.ChangeShapes
section
variable {H : Type} {enc : TypeId × Value → H} {W : World}
def goodSpan (a : Span) : Prop := (fun n => IntKind.i64.min ≤ n ∧ n ≤ IntKind.i64.max) a.low ∧ (fun n => IntKind.i64.min ≤ n ∧ n ≤ IntKind.i64.max) a.high
theorem reads_Span23 : Reads enc Tryd.prog W 23 encSpan goodSpan := fun fuel cs x h => by
  obtain ⟨hl, hf⟩ := reads_fields Tryd.underlying23 h
  have ct : Tryd.prog.cellsOf 23 = 2 := by kernel_rfl
  rw [ct] at hl
  obtain ⟨m0, y0, h0⟩ := hf 0 _ rfl
  have c0 : Tryd.prog.cellsOf 3 = 1 := by kernel_rfl
  obtain ⟨a0, e0, g0⟩ := (reads_int Tryd.underlying3) _ _ _ h0
  replace e0 : (cs.drop 0).take 1 = [(.int .i64 a0)] := (congrArg (fun n => (cs.drop 0).take n) c0.symm).trans e0
  obtain ⟨m1, y1, h1⟩ := hf 1 _ rfl
  have c1 : Tryd.prog.cellsOf 3 = 1 := by kernel_rfl
  obtain ⟨a1, e1, g1⟩ := (reads_int Tryd.underlying3) _ _ _ h1
  replace e1 : (cs.drop 1).take 1 = [(.int .i64 a1)] := (congrArg (fun n => (cs.drop 1).take n) c1.symm).trans e1
  match cs, hl, e0, e1 with
  | [v0, v1], _, e0, e1 =>
    cases e0
    cases e1
    exact ⟨⟨a0, a1⟩, rfl, ⟨g0, g1⟩⟩
end
end Go.Proofs.YtllhdlnnlckceaaDoor.W
