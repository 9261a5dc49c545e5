/- What the laws' arguments read as. Written by our own program card.py; Lean checks it. -/
import Derived.Test.YtpocodofhkaddaaGreatDoorLibG
import Derived.Test.YtpocodofhkaddaaGreatDoorTypes
import Derived.Test.YtpocodofhkaddaaGreatDoorProg
set_option linter.unusedVariables false
set_option maxRecDepth 100000
namespace Go.Proofs.YtpocodofhkaddaaGreatDoor.W
open Go Go.RowKit Go.ChangeShapes
section
variable {H : Type} {enc : TypeId × Value → H} {W : World}
def goodEntry (a : Entry) : Prop := (fun n => IntKind.i64.min ≤ n ∧ n ≤ IntKind.i64.max) a.kind ∧ (fun s => s.length ≤ maxLen) a.name ∧ (fun n => IntKind.i64.min ≤ n ∧ n ≤ IntKind.i64.max) a.count ∧ (fun n => IntKind.i64.min ≤ n ∧ n ≤ IntKind.i64.max) a.strokes
theorem reads_Entry24 : Reads enc Tryz.prog W 24 encEntry goodEntry := fun fuel cs x h => by
  obtain ⟨hl, hf⟩ := reads_fields Tryz.underlying24 h
  have ct : Tryz.prog.cellsOf 24 = 4 := by kernel_rfl
  rw [ct] at hl
  obtain ⟨m0, y0, h0⟩ := hf 0 _ rfl
  have c0 : Tryz.prog.cellsOf 3 = 1 := by kernel_rfl
  obtain ⟨a0, e0, g0⟩ := (reads_int Tryz.underlying3) _ _ _ h0
  replace e0 : (cs.drop 0).take 1 = [(.int .i64 a0)] := (congrArg (fun n => (cs.drop 0).take n) c0.symm).trans e0
  obtain ⟨m1, y1, h1⟩ := hf 1 _ rfl
  have c1 : Tryz.prog.cellsOf 9 = 1 := by kernel_rfl
  obtain ⟨a1, e1, g1⟩ := (reads_str Tryz.underlying9) _ _ _ h1
  replace e1 : (cs.drop 1).take 1 = [(mkS a1)] := (congrArg (fun n => (cs.drop 1).take n) c1.symm).trans e1
  obtain ⟨m2, y2, h2⟩ := hf 2 _ rfl
  have c2 : Tryz.prog.cellsOf 3 = 1 := by kernel_rfl
  obtain ⟨a2, e2, g2⟩ := (reads_int Tryz.underlying3) _ _ _ h2
  replace e2 : (cs.drop 2).take 1 = [(.int .i64 a2)] := (congrArg (fun n => (cs.drop 2).take n) c2.symm).trans e2
  obtain ⟨m3, y3, h3⟩ := hf 3 _ rfl
  have c3 : Tryz.prog.cellsOf 3 = 1 := by kernel_rfl
  obtain ⟨a3, e3, g3⟩ := (reads_int Tryz.underlying3) _ _ _ h3
  replace e3 : (cs.drop 3).take 1 = [(.int .i64 a3)] := (congrArg (fun n => (cs.drop 3).take n) c3.symm).trans e3
  match cs, hl, e0, e1, e2, e3 with
  | [v0, v1, v2, v3], _, e0, e1, e2, e3 =>
    cases e0
    cases e1
    cases e2
    cases e3
    exact ⟨⟨a0, a1, a2, a3⟩, rfl, ⟨g0, g1, g2, g3⟩⟩
end
end Go.Proofs.YtpocodofhkaddaaGreatDoor.W
