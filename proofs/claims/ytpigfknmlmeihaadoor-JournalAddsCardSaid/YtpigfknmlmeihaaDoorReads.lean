/- What the laws' arguments read as. Written by our own program card.py; Lean checks it. -/
import Derived.Test.YtpigfknmlmeihaaDoorLibG
import Derived.Test.YtpigfknmlmeihaaDoorTypes
import Derived.Test.YtpigfknmlmeihaaDoorProg
set_option linter.unusedVariables false
set_option maxRecDepth 100000
namespace Go.Proofs.YtpigfknmlmeihaaDoor.W
open Go Go.RowKit Go.ChangeShapes
section
variable {H : Type} {enc : TypeId × Value → H} {W : World}
def goodItem (a : Item) : Prop := (fun s => s.length ≤ maxLen) a.name ∧ (fun n => IntKind.i64.min ≤ n ∧ n ≤ IntKind.i64.max) a.life ∧ (fun n => IntKind.i64.min ≤ n ∧ n ≤ IntKind.i64.max) a.used ∧ (fun n => IntKind.i64.min ≤ n ∧ n ≤ IntKind.i64.max) a.faults ∧ (fun _ => True) a.faulty ∧ (fun n => IntKind.i64.min ≤ n ∧ n ≤ IntKind.i64.max) a.since ∧ (fun n => IntKind.i64.min ≤ n ∧ n ≤ IntKind.i64.max) a.cycles
theorem reads_Item79 : Reads enc Tryd.prog W 79 encItem goodItem := fun fuel cs x h => by
  obtain ⟨hl, hf⟩ := reads_fields Tryd.underlying79 h
  have ct : Tryd.prog.cellsOf 79 = 7 := by kernel_rfl
  rw [ct] at hl
  obtain ⟨m0, y0, h0⟩ := hf 0 _ rfl
  have c0 : Tryd.prog.cellsOf 9 = 1 := by kernel_rfl
  obtain ⟨a0, e0, g0⟩ := (reads_str Tryd.underlying9) _ _ _ h0
  replace e0 : (cs.drop 0).take 1 = [(mkS a0)] := (congrArg (fun n => (cs.drop 0).take n) c0.symm).trans e0
  obtain ⟨m1, y1, h1⟩ := hf 1 _ rfl
  have c1 : Tryd.prog.cellsOf 3 = 1 := by kernel_rfl
  obtain ⟨a1, e1, g1⟩ := (reads_int Tryd.underlying3) _ _ _ h1
  replace e1 : (cs.drop 1).take 1 = [(.int .i64 a1)] := (congrArg (fun n => (cs.drop 1).take n) c1.symm).trans e1
  obtain ⟨m2, y2, h2⟩ := hf 2 _ rfl
  have c2 : Tryd.prog.cellsOf 3 = 1 := by kernel_rfl
  obtain ⟨a2, e2, g2⟩ := (reads_int Tryd.underlying3) _ _ _ h2
  replace e2 : (cs.drop 2).take 1 = [(.int .i64 a2)] := (congrArg (fun n => (cs.drop 2).take n) c2.symm).trans e2
  obtain ⟨m3, y3, h3⟩ := hf 3 _ rfl
  have c3 : Tryd.prog.cellsOf 3 = 1 := by kernel_rfl
  obtain ⟨a3, e3, g3⟩ := (reads_int Tryd.underlying3) _ _ _ h3
  replace e3 : (cs.drop 3).take 1 = [(.int .i64 a3)] := (congrArg (fun n => (cs.drop 3).take n) c3.symm).trans e3
  obtain ⟨m4, y4, h4⟩ := hf 4 _ rfl
  have c4 : Tryd.prog.cellsOf 4 = 1 := by kernel_rfl
  obtain ⟨a4, e4, g4⟩ := (reads_bool Tryd.underlying4) _ _ _ h4
  replace e4 : (cs.drop 4).take 1 = [(.bool a4)] := (congrArg (fun n => (cs.drop 4).take n) c4.symm).trans e4
  obtain ⟨m5, y5, h5⟩ := hf 5 _ rfl
  have c5 : Tryd.prog.cellsOf 3 = 1 := by kernel_rfl
  obtain ⟨a5, e5, g5⟩ := (reads_int Tryd.underlying3) _ _ _ h5
  replace e5 : (cs.drop 5).take 1 = [(.int .i64 a5)] := (congrArg (fun n => (cs.drop 5).take n) c5.symm).trans e5
  obtain ⟨m6, y6, h6⟩ := hf 6 _ rfl
  have c6 : Tryd.prog.cellsOf 3 = 1 := by kernel_rfl
  obtain ⟨a6, e6, g6⟩ := (reads_int Tryd.underlying3) _ _ _ h6
  replace e6 : (cs.drop 6).take 1 = [(.int .i64 a6)] := (congrArg (fun n => (cs.drop 6).take n) c6.symm).trans e6
  match cs, hl, e0, e1, e2, e3, e4, e5, e6 with
  | [v0, v1, v2, v3, v4, v5, v6], _, e0, e1, e2, e3, e4, e5, e6 =>
    cases e0
    cases e1
    cases e2
    cases e3
    cases e4
    cases e5
    cases e6
    exact ⟨⟨a0, a1, a2, a3, a4, a5, a6⟩, rfl, ⟨g0, g1, g2, g3, g4, g5, g6⟩⟩
def goodMachine (a : Machine) : Prop := (a.items.length ≤ maxLen ∧ ∀ x ∈ a.items, goodItem x) ∧ (fun n => IntKind.i64.min ≤ n ∧ n ≤ IntKind.i64.max) a.cycles
theorem reads_Machine24 : Reads enc Tryd.prog W 24 encMachine goodMachine := fun fuel cs x h => by
  obtain ⟨hl, hf⟩ := reads_fields Tryd.underlying24 h
  have ct : Tryd.prog.cellsOf 24 = 2 := by kernel_rfl
  rw [ct] at hl
  obtain ⟨m0, y0, h0⟩ := hf 0 _ rfl
  have c0 : Tryd.prog.cellsOf 22 = 1 := by kernel_rfl
  obtain ⟨ao0, a0, cap0, e0, s0, k0, q0, g0⟩ := reads_slice Tryd.underlying22 (by kernel_rfl) (reads_Item79) _ _ _ h0
  replace e0 : (cs.drop 0).take 1 = [.slice ao0 a0.length cap0] := (congrArg (fun n => (cs.drop 0).take n) c0.symm).trans e0
  obtain ⟨m1, y1, h1⟩ := hf 1 _ rfl
  have c1 : Tryd.prog.cellsOf 3 = 1 := by kernel_rfl
  obtain ⟨a1, e1, g1⟩ := (reads_int Tryd.underlying3) _ _ _ h1
  replace e1 : (cs.drop 1).take 1 = [(.int .i64 a1)] := (congrArg (fun n => (cs.drop 1).take n) c1.symm).trans e1
  match cs, hl, e0, e1 with
  | [v0, v1], _, e0, e1 =>
    cases e0
    cases e1
    exact ⟨⟨a0, a1⟩, ⟨ao0, cap0, rfl, s0, k0⟩, ⟨⟨Nat.le_trans k0 q0, g0⟩, g1⟩⟩
def goodEntry (a : Entry) : Prop := (fun n => IntKind.i64.min ≤ n ∧ n ≤ IntKind.i64.max) a.kind ∧ (fun s => s.length ≤ maxLen) a.name ∧ (fun n => IntKind.i64.min ≤ n ∧ n ≤ IntKind.i64.max) a.count ∧ (fun n => IntKind.i64.min ≤ n ∧ n ≤ IntKind.i64.max) a.strokes
theorem reads_Entry26 : Reads enc Tryd.prog W 26 encEntry goodEntry := fun fuel cs x h => by
  obtain ⟨hl, hf⟩ := reads_fields Tryd.underlying26 h
  have ct : Tryd.prog.cellsOf 26 = 4 := by kernel_rfl
  rw [ct] at hl
  obtain ⟨m0, y0, h0⟩ := hf 0 _ rfl
  have c0 : Tryd.prog.cellsOf 3 = 1 := by kernel_rfl
  obtain ⟨a0, e0, g0⟩ := (reads_int Tryd.underlying3) _ _ _ h0
  replace e0 : (cs.drop 0).take 1 = [(.int .i64 a0)] := (congrArg (fun n => (cs.drop 0).take n) c0.symm).trans e0
  obtain ⟨m1, y1, h1⟩ := hf 1 _ rfl
  have c1 : Tryd.prog.cellsOf 9 = 1 := by kernel_rfl
  obtain ⟨a1, e1, g1⟩ := (reads_str Tryd.underlying9) _ _ _ h1
  replace e1 : (cs.drop 1).take 1 = [(mkS a1)] := (congrArg (fun n => (cs.drop 1).take n) c1.symm).trans e1
  obtain ⟨m2, y2, h2⟩ := hf 2 _ rfl
  have c2 : Tryd.prog.cellsOf 3 = 1 := by kernel_rfl
  obtain ⟨a2, e2, g2⟩ := (reads_int Tryd.underlying3) _ _ _ h2
  replace e2 : (cs.drop 2).take 1 = [(.int .i64 a2)] := (congrArg (fun n => (cs.drop 2).take n) c2.symm).trans e2
  obtain ⟨m3, y3, h3⟩ := hf 3 _ rfl
  have c3 : Tryd.prog.cellsOf 3 = 1 := by kernel_rfl
  obtain ⟨a3, e3, g3⟩ := (reads_int Tryd.underlying3) _ _ _ h3
  replace e3 : (cs.drop 3).take 1 = [(.int .i64 a3)] := (congrArg (fun n => (cs.drop 3).take n) c3.symm).trans e3
  match cs, hl, e0, e1, e2, e3 with
  | [v0, v1, v2, v3], _, e0, e1, e2, e3 =>
    cases e0
    cases e1
    cases e2
    cases e3
    exact ⟨⟨a0, a1, a2, a3⟩, rfl, ⟨g0, g1, g2, g3⟩⟩
end
end Go.Proofs.YtpigfknmlmeihaaDoor.W
