/- What the laws' arguments read as. Written by our own program card.py; Lean checks it. -/
import Derived.Test.YtmfphbdafgmplaaDoorLibG
import Derived.Test.YtmfphbdafgmplaaDoorTypes
import Derived.Test.YtmfphbdafgmplaaDoorProg
set_option linter.unusedVariables false
set_option maxRecDepth 100000
namespace Go.Proofs.YtmfphbdafgmplaaDoor.W
open Go Go.RowKit Go.ChangeShapes
section
variable {H : Type} {enc : TypeId × Value → H} {W : World}
def goodToken (a : Token) : Prop := (fun n => IntKind.i64.min ≤ n ∧ n ≤ IntKind.i64.max) a.kind ∧ (fun s => s.length ≤ maxLen) a.text ∧ (fun n => IntKind.i64.min ≤ n ∧ n ≤ IntKind.i64.max) a.at_
theorem reads_Token37 : Reads enc Tryd.prog W 37 encToken goodToken := fun fuel cs x h => by
  obtain ⟨hl, hf⟩ := reads_fields Tryd.underlying37 h
  have ct : Tryd.prog.cellsOf 37 = 3 := by kernel_rfl
  rw [ct] at hl
  obtain ⟨m0, y0, h0⟩ := hf 0 _ rfl
  have c0 : Tryd.prog.cellsOf 3 = 1 := by kernel_rfl
  obtain ⟨a0, e0, g0⟩ := (reads_int Tryd.underlying3) _ _ _ h0
  replace e0 : (cs.drop 0).take 1 = [(.int .i64 a0)] := (congrArg (fun n => (cs.drop 0).take n) c0.symm).trans e0
  obtain ⟨m1, y1, h1⟩ := hf 1 _ rfl
  have c1 : Tryd.prog.cellsOf 9 = 1 := by kernel_rfl
  obtain ⟨a1, e1, g1⟩ := (reads_str Tryd.underlying9) _ _ _ h1
  replace e1 : (cs.drop 1).take 1 = [(mkS a1)] := (congrArg (fun n => (cs.drop 1).take n) c1.symm).trans e1
  obtain ⟨m2, y2, h2⟩ := hf 2 _ rfl
  have c2 : Tryd.prog.cellsOf 3 = 1 := by kernel_rfl
  obtain ⟨a2, e2, g2⟩ := (reads_int Tryd.underlying3) _ _ _ h2
  replace e2 : (cs.drop 2).take 1 = [(.int .i64 a2)] := (congrArg (fun n => (cs.drop 2).take n) c2.symm).trans e2
  match cs, hl, e0, e1, e2 with
  | [v0, v1, v2], _, e0, e1, e2 =>
    cases e0
    cases e1
    cases e2
    exact ⟨⟨a0, a1, a2⟩, rfl, ⟨g0, g1, g2⟩⟩
end
end Go.Proofs.YtmfphbdafgmplaaDoor.W
