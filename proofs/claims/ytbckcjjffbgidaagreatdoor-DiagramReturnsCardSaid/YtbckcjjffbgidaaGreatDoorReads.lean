/- What the laws' arguments read as. Written by our own program card.py; Lean checks it. -/
import Derived.Test.YtbckcjjffbgidaaGreatDoorLibN
import Derived.Test.YtbckcjjffbgidaaGreatDoorTypes
import Derived.Test.YtbckcjjffbgidaaGreatDoorProg
set_option linter.unusedVariables false
set_option maxRecDepth 100000
namespace Go.Proofs.YtbckcjjffbgidaaGreatDoor.W
open Go Go.RowKit Go.ChangeShapes
section
variable {H : Type} {enc : TypeId × Value → H} {W : World}
def goodStroke (a : Stroke) : Prop := (fun n => IntKind.i64.min ≤ n ∧ n ≤ IntKind.i64.max) a.actuator ∧ (fun _ => True) a.out
theorem reads_Stroke48 : Reads enc Tryz.prog W 48 encStroke goodStroke := fun fuel cs x h => by
  obtain ⟨hl, hf⟩ := reads_fields Tryz.underlying48 h
  have ct : Tryz.prog.cellsOf 48 = 2 := by kernel_rfl
  rw [ct] at hl
  obtain ⟨m0, y0, h0⟩ := hf 0 _ rfl
  have c0 : Tryz.prog.cellsOf 3 = 1 := by kernel_rfl
  obtain ⟨a0, e0, g0⟩ := (reads_int Tryz.underlying3) _ _ _ h0
  replace e0 : (cs.drop 0).take 1 = [(.int .i64 a0)] := (congrArg (fun n => (cs.drop 0).take n) c0.symm).trans e0
  obtain ⟨m1, y1, h1⟩ := hf 1 _ rfl
  have c1 : Tryz.prog.cellsOf 4 = 1 := by kernel_rfl
  obtain ⟨a1, e1, g1⟩ := (reads_bool Tryz.underlying4) _ _ _ h1
  replace e1 : (cs.drop 1).take 1 = [(.bool a1)] := (congrArg (fun n => (cs.drop 1).take n) c1.symm).trans e1
  match cs, hl, e0, e1 with
  | [v0, v1], _, e0, e1 =>
    cases e0
    cases e1
    exact ⟨⟨a0, a1⟩, rfl, ⟨g0, g1⟩⟩
def goodStep (a : Step) : Prop := (a.strokes.length ≤ maxLen ∧ ∀ x ∈ a.strokes, goodStroke x) ∧ (fun n => IntKind.i64.min ≤ n ∧ n ≤ IntKind.i64.max) a.wait
theorem reads_Step45 : Reads enc Tryz.prog W 45 encStep goodStep := fun fuel cs x h => by
  obtain ⟨hl, hf⟩ := reads_fields Tryz.underlying45 h
  have ct : Tryz.prog.cellsOf 45 = 2 := by kernel_rfl
  rw [ct] at hl
  obtain ⟨m0, y0, h0⟩ := hf 0 _ rfl
  have c0 : Tryz.prog.cellsOf 43 = 1 := by kernel_rfl
  obtain ⟨ao0, a0, cap0, e0, s0, k0, q0, g0⟩ := reads_slice Tryz.underlying43 (by kernel_rfl) (reads_Stroke48) _ _ _ h0
  replace e0 : (cs.drop 0).take 1 = [.slice ao0 a0.length cap0] := (congrArg (fun n => (cs.drop 0).take n) c0.symm).trans e0
  obtain ⟨m1, y1, h1⟩ := hf 1 _ rfl
  have c1 : Tryz.prog.cellsOf 3 = 1 := by kernel_rfl
  obtain ⟨a1, e1, g1⟩ := (reads_int Tryz.underlying3) _ _ _ h1
  replace e1 : (cs.drop 1).take 1 = [(.int .i64 a1)] := (congrArg (fun n => (cs.drop 1).take n) c1.symm).trans e1
  match cs, hl, e0, e1 with
  | [v0, v1], _, e0, e1 =>
    cases e0
    cases e1
    exact ⟨⟨a0, a1⟩, ⟨ao0, cap0, rfl, s0, k0⟩, ⟨⟨Nat.le_trans k0 q0, g0⟩, g1⟩⟩
def goodSequence (a : Sequence) : Prop := (fun n => IntKind.i64.min ≤ n ∧ n ≤ IntKind.i64.max) a.actuators ∧ (a.steps.length ≤ maxLen ∧ ∀ x ∈ a.steps, goodStep x)
theorem reads_Sequence24 : Reads enc Tryz.prog W 24 encSequence goodSequence := fun fuel cs x h => by
  obtain ⟨hl, hf⟩ := reads_fields Tryz.underlying24 h
  have ct : Tryz.prog.cellsOf 24 = 2 := by kernel_rfl
  rw [ct] at hl
  obtain ⟨m0, y0, h0⟩ := hf 0 _ rfl
  have c0 : Tryz.prog.cellsOf 3 = 1 := by kernel_rfl
  obtain ⟨a0, e0, g0⟩ := (reads_int Tryz.underlying3) _ _ _ h0
  replace e0 : (cs.drop 0).take 1 = [(.int .i64 a0)] := (congrArg (fun n => (cs.drop 0).take n) c0.symm).trans e0
  obtain ⟨m1, y1, h1⟩ := hf 1 _ rfl
  have c1 : Tryz.prog.cellsOf 22 = 1 := by kernel_rfl
  obtain ⟨ao1, a1, cap1, e1, s1, k1, q1, g1⟩ := reads_slice Tryz.underlying22 (by kernel_rfl) (reads_Step45) _ _ _ h1
  replace e1 : (cs.drop 1).take 1 = [.slice ao1 a1.length cap1] := (congrArg (fun n => (cs.drop 1).take n) c1.symm).trans e1
  match cs, hl, e0, e1 with
  | [v0, v1], _, e0, e1 =>
    cases e0
    cases e1
    exact ⟨⟨a0, a1⟩, ⟨ao1, cap1, rfl, s1, k1⟩, ⟨g0, ⟨Nat.le_trans k1 q1, g1⟩⟩⟩
end
end Go.Proofs.YtbckcjjffbgidaaGreatDoor.W
