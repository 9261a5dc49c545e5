/- What the laws' arguments read as. Written by our own program card.py; Lean checks it. -/
import Derived.Test.YtllhdlnnlckceaaDoorLibG
import Derived.Test.YtllhdlnnlckceaaDoorTypes
import Derived.Test.YtllhdlnnlckceaaDoorProg
set_option linter.unusedVariables false
set_option maxRecDepth 100000
namespace Go.Proofs.YtllhdlnnlckceaaDoor.W
open Go Go.RowKit Go.ChangeShapes
section
variable {H : Type} {enc : TypeId × Value → H} {W : World}
def goodSpan (a : Span) : Prop := (fun n => IntKind.i64.min ≤ n ∧ n ≤ IntKind.i64.max) a.low ∧ (fun n => IntKind.i64.min ≤ n ∧ n ≤ IntKind.i64.max) a.high
theorem reads_Span23 : Reads enc Tryd.prog W 23 encSpan goodSpan := fun fuel cs x h => by
  obtain ⟨hl, hf⟩ := reads_fields Tryd.underlying23 h
  have ct : Tryd.prog.cellsOf 23 = 2 := by kernel_rfl
  rw [ct] at hl
  obtain ⟨m0, y0, h0⟩ := hf 0 _ rfl
  have c0 : Tryd.prog.cellsOf 3 = 1 := by kernel_rfl
  obtain ⟨a0, e0, g0⟩ := (reads_int Tryd.underlying3) _ _ _ h0
  replace e0 : (cs.drop 0).take 1 = [(.int .i64 a0)] := (congrArg (fun n => (cs.drop 0).take n) c0.symm).trans e0
  obtain ⟨m1, y1, h1⟩ := hf 1 _ rfl
  have c1 : Tryd.prog.cellsOf 3 = 1 := by kernel_rfl
  obtain ⟨a1, e1, g1⟩ := (reads_int Tryd.underlying3) _ _ _ h1
  replace e1 : (cs.drop 1).take 1 = [(.int .i64 a1)] := (congrArg (fun n => (cs.drop 1).take n) c1.symm).trans e1
  match cs, hl, e0, e1 with
  | [v0, v1], _, e0, e1 =>
    cases e0
    cases e1
    exact ⟨⟨a0, a1⟩, rfl, ⟨g0, g1⟩⟩
def goodB3 (a : B3) : Prop := (fun n => IntKind.u16.min ≤ n ∧ n ≤ IntKind.u16.max) a.a0 ∧ (fun n => IntKind.u16.min ≤ n ∧ n ≤ IntKind.u16.max) a.a1 ∧ (fun n => IntKind.u16.min ≤ n ∧ n ≤ IntKind.u16.max) a.a2
theorem reads_B336 : Reads enc Tryd.prog W 36 encB3 goodB3 := fun fuel cs x h => by
  obtain ⟨hl, hf⟩ := reads_array Tryd.underlying36 h
  have ct : Tryd.prog.cellsOf 36 = 3 := by kernel_rfl
  rw [ct] at hl
  obtain ⟨m0, y0, h0⟩ := hf 0 (by decide)
  have c0 : Tryd.prog.cellsOf 35 = 1 := by kernel_rfl
  obtain ⟨a0, e0, g0⟩ := (reads_int Tryd.underlying35) _ _ _ h0
  replace e0 : (cs.drop 0).take 1 = [(.int .u16 a0)] := by rw [c0] at e0; exact e0
  obtain ⟨m1, y1, h1⟩ := hf 1 (by decide)
  have c1 : Tryd.prog.cellsOf 35 = 1 := by kernel_rfl
  obtain ⟨a1, e1, g1⟩ := (reads_int Tryd.underlying35) _ _ _ h1
  replace e1 : (cs.drop 1).take 1 = [(.int .u16 a1)] := by rw [c1] at e1; exact e1
  obtain ⟨m2, y2, h2⟩ := hf 2 (by decide)
  have c2 : Tryd.prog.cellsOf 35 = 1 := by kernel_rfl
  obtain ⟨a2, e2, g2⟩ := (reads_int Tryd.underlying35) _ _ _ h2
  replace e2 : (cs.drop 2).take 1 = [(.int .u16 a2)] := by rw [c2] at e2; exact e2
  match cs, hl, e0, e1, e2 with
  | [v0, v1, v2], _, e0, e1, e2 =>
    cases e0
    cases e1
    cases e2
    exact ⟨⟨a0, a1, a2⟩, rfl, ⟨g0, g1, g2⟩⟩
end
end Go.Proofs.YtllhdlnnlckceaaDoor.W
