import Derived.Test.YtkgijoddkibapaaGreatDoorLibN
import Derived.Test.YtkgijoddkibapaaGreatDoorTypes
import Derived.Test.YtkgijoddkibapaaGreatDoorProg
set_option linter.unusedVariables false
set_option maxRecDepth 100000
namespace Go.Proofs.YtkgijoddkibapaaGreatDoor.W
open Go Go.RowKit Go.ChangeShapes
section
variable {H : Type} {enc : TypeId × Value → H} {W : World}
def goodStroke (a : Stroke) : Prop := (fun n => IntKind.i64.min ≤ n ∧ n ≤ IntKind.i64.max) a.actuator ∧ (fun _ => True) a.out
theorem reads_Stroke59 : Reads enc Tryz.prog W 59 encStroke goodStroke := fun fuel cs x h => by
  obtain ⟨hl, hf⟩ := reads_fields Tryz.underlying59 h
  have ct : Tryz.prog.cellsOf 59 = 2 := by kernel_rfl
  rw [ct] at hl
  obtain ⟨m0, y0, h0⟩ := hf 0 _ rfl
  have c0 : Tryz.prog.cellsOf 3 = 1 := by kernel_rfl
  obtain ⟨a0, e0, g0⟩ := (reads_int Tryz.underlying3) _ _ _ h0
  replace e0 : (cs.drop 0).take 1 = [(.int .i64 a0)] := (congrArg (fun n => (cs.drop 0).take n) c0.symm).trans e0
  obtain ⟨m1, y1, h1⟩ := hf 1 _ rfl
  have c1 : Tryz.prog.cellsOf 4 = 1 := by kernel_rfl
  obtain ⟨a1, e1, g1⟩ := (reads_bool Tryz.underlying4) _ _ _ h1
  replace e1 : (cs.drop 1).take 1 = [(.bool a1)] := (congrArg (fun n => (cs.drop 1).take n) c1.symm).trans e1
  match cs, hl, e0, e1 with
  | [v0, v1], _, e0, e1 =>
    cases e0
    cases e1
    exact ⟨⟨a0, a1⟩, rfl, ⟨g0, g1⟩⟩
def goodStep (a : Step) : Prop := (a.strokes.length ≤ maxLen ∧ ∀ x ∈ a.strokes, goodStroke x) ∧ (fun n => IntKind.i64.min ≤ n ∧ n ≤ IntKind.i64.max) a.wait
theorem reads_Step55 : Reads enc Tryz.prog W 55 encStep goodStep := fun fuel cs x h => by
  obtain ⟨hl, hf⟩ := reads_fields Tryz.underlying55 h
  have ct : Tryz.prog.cellsOf 55 = 2 := by kernel_rfl
  rw [ct] at hl
  obtain ⟨m0, y0, h0⟩ := hf 0 _ rfl
  have c0 : Tryz.prog.cellsOf 53 = 1 := by kernel_rfl
  obtain ⟨ao0, a0, cap0, e0, s0, k0, q0, g0⟩ := reads_slice Tryz.underlying53 (by kernel_rfl) (reads_Stroke59) _ _ _ h0
  replace e0 : (cs.drop 0).take 1 = [.slice ao0 a0.length cap0] := (congrArg (fun n => (cs.drop 0).take n) c0.symm).trans e0
  obtain ⟨m1, y1, h1⟩ := hf 1 _ rfl
  have c1 : Tryz.prog.cellsOf 3 = 1 := by kernel_rfl
  obtain ⟨a1, e1, g1⟩ := (reads_int Tryz.underlying3) _ _ _ h1
  replace e1 : (cs.drop 1).take 1 = [(.int .i64 a1)] := (congrArg (fun n => (cs.drop 1).take n) c1.symm).trans e1
  match cs, hl, e0, e1 with
  | [v0, v1], _, e0, e1 =>
    cases e0
    cases e1
    exact ⟨⟨a0, a1⟩, ⟨ao0, cap0, rfl, s0, k0⟩, ⟨⟨Nat.le_trans k0 q0, g0⟩, g1⟩⟩
def goodSequence (a : Sequence) : Prop := (fun n => IntKind.i64.min ≤ n ∧ n ≤ IntKind.i64.max) a.actuators ∧ (a.steps.length ≤ maxLen ∧ ∀ x ∈ a.steps, goodStep x)
theorem reads_Sequence24 : Reads enc Tryz.prog W 24 encSequence goodSequence := fun fuel cs x h => by
  obtain ⟨hl, hf⟩ := reads_fields Tryz.underlying24 h
  have ct : Tryz.prog.cellsOf 24 = 2 := by kernel_rfl
  rw [ct] at hl
  obtain ⟨m0, y0, h0⟩ := hf 0 _ rfl
  have c0 : Tryz.prog.cellsOf 3 = 1 := by kernel_rfl
  obtain ⟨a0, e0, g0⟩ := (reads_int Tryz.underlying3) _ _ _ h0
  replace e0 : (cs.drop 0).take 1 = [(.int .i64 a0)] := (congrArg (fun n => (cs.drop 0).take n) c0.symm).trans e0
  obtain ⟨m1, y1, h1⟩ := hf 1 _ rfl
  have c1 : Tryz.prog.cellsOf 22 = 1 := by kernel_rfl
  obtain ⟨ao1, a1, cap1, e1, s1, k1, q1, g1⟩ := reads_slice Tryz.underlying22 (by kernel_rfl) (reads_Step55) _ _ _ h1
  replace e1 : (cs.drop 1).take 1 = [.slice ao1 a1.length cap1] := (congrArg (fun n => (cs.drop 1).take n) c1.symm).trans e1
  match cs, hl, e0, e1 with
  | [v0, v1], _, e0, e1 =>
    cases e0
    cases e1
    exact ⟨⟨a0, a1⟩, ⟨ao1, cap1, rfl, s1, k1⟩, ⟨g0, ⟨Nat.le_trans k1 q1, g1⟩⟩⟩
def goodSpan (a : Span) : Prop := (fun n => IntKind.i64.min ≤ n ∧ n ≤ IntKind.i64.max) a.low ∧ (fun n => IntKind.i64.min ≤ n ∧ n ≤ IntKind.i64.max) a.high
theorem reads_Span38 : Reads enc Tryz.prog W 38 encSpan goodSpan := fun fuel cs x h => by
  obtain ⟨hl, hf⟩ := reads_fields Tryz.underlying38 h
  have ct : Tryz.prog.cellsOf 38 = 2 := by kernel_rfl
  rw [ct] at hl
  obtain ⟨m0, y0, h0⟩ := hf 0 _ rfl
  have c0 : Tryz.prog.cellsOf 3 = 1 := by kernel_rfl
  obtain ⟨a0, e0, g0⟩ := (reads_int Tryz.underlying3) _ _ _ h0
  replace e0 : (cs.drop 0).take 1 = [(.int .i64 a0)] := (congrArg (fun n => (cs.drop 0).take n) c0.symm).trans e0
  obtain ⟨m1, y1, h1⟩ := hf 1 _ rfl
  have c1 : Tryz.prog.cellsOf 3 = 1 := by kernel_rfl
  obtain ⟨a1, e1, g1⟩ := (reads_int Tryz.underlying3) _ _ _ h1
  replace e1 : (cs.drop 1).take 1 = [(.int .i64 a1)] := (congrArg (fun n => (cs.drop 1).take n) c1.symm).trans e1
  match cs, hl, e0, e1 with
  | [v0, v1], _, e0, e1 =>
    cases e0
    cases e1
    exact ⟨⟨a0, a1⟩, rfl, ⟨g0, g1⟩⟩
def goodTravel (a : Travel) : Prop := goodSpan a.out ∧ goodSpan a.in_
theorem reads_Travel51 : Reads enc Tryz.prog W 51 encTravel goodTravel := fun fuel cs x h => by
  obtain ⟨hl, hf⟩ := reads_fields Tryz.underlying51 h
  have ct : Tryz.prog.cellsOf 51 = 4 := by kernel_rfl
  rw [ct] at hl
  obtain ⟨m0, y0, h0⟩ := hf 0 _ rfl
  have c0 : Tryz.prog.cellsOf 38 = 2 := by kernel_rfl
  obtain ⟨a0, e0, g0⟩ := (reads_Span38) _ _ _ h0
  replace e0 : (cs.drop 0).take 2 = [(.int .i64 a0.low), (.int .i64 a0.high)] := (congrArg (fun n => (cs.drop 0).take n) c0.symm).trans e0
  obtain ⟨m1, y1, h1⟩ := hf 1 _ rfl
  have c1 : Tryz.prog.cellsOf 38 = 2 := by kernel_rfl
  obtain ⟨a1, e1, g1⟩ := (reads_Span38) _ _ _ h1
  replace e1 : (cs.drop 2).take 2 = [(.int .i64 a1.low), (.int .i64 a1.high)] := (congrArg (fun n => (cs.drop 2).take n) c1.symm).trans e1
  match cs, hl, e0, e1 with
  | [v0, v1, v2, v3], _, e0, e1 =>
    cases e0
    cases e1
    exact ⟨⟨a0, a1⟩, rfl, ⟨g0, g1⟩⟩
def goodPlant (a : Plant) : Prop := (a.travels.length ≤ maxLen ∧ ∀ x ∈ a.travels, goodTravel x)
theorem reads_Plant27 : Reads enc Tryz.prog W 27 encPlant goodPlant := fun fuel cs x h => by
  obtain ⟨hl, hf⟩ := reads_fields Tryz.underlying27 h
  have ct : Tryz.prog.cellsOf 27 = 1 := by kernel_rfl
  rw [ct] at hl
  obtain ⟨m0, y0, h0⟩ := hf 0 _ rfl
  have c0 : Tryz.prog.cellsOf 25 = 1 := by kernel_rfl
  obtain ⟨ao0, a0, cap0, e0, s0, k0, q0, g0⟩ := reads_slice Tryz.underlying25 (by kernel_rfl) (reads_Travel51) _ _ _ h0
  replace e0 : (cs.drop 0).take 1 = [.slice ao0 a0.length cap0] := (congrArg (fun n => (cs.drop 0).take n) c0.symm).trans e0
  match cs, hl, e0 with
  | [v0], _, e0 =>
    cases e0
    exact ⟨⟨a0⟩, ⟨ao0, cap0, rfl, s0, k0⟩, ⟨Nat.le_trans k0 q0, g0⟩⟩
theorem reads_sl {P : Program} {t e : TypeId} {α : Type} {E : Enc α} {good : α → Prop} (ht : P.underlying t = some (.slice e)) (hc : P.cellsOf e = E.size) (h : Reads enc P W e E good) : Reads enc P W t (encSl E) (fun l => l.length ≤ maxLen ∧ ∀ x ∈ l, good x) := fun fuel cs x hx => by
  obtain ⟨ao, l, cap, e1, s1, k1, q1, g1⟩ := reads_slice ht hc h _ _ _ hx
  exact ⟨l, ⟨ao, cap, e1, s1, k1⟩, Nat.le_trans k1 q1, g1⟩
end
end Go.Proofs.YtkgijoddkibapaaGreatDoor.W
