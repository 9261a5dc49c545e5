import Derived.Test.YtgpfgnpdbmbknaaGreatDoorLibN
import Derived.Test.YtgpfgnpdbmbknaaGreatDoorTypes
import Derived.Test.YtgpfgnpdbmbknaaGreatDoorProg
set_option linter.unusedVariables false
set_option maxRecDepth 100000
namespace Go.Proofs.YtgpfgnpdbmbknaaGreatDoor.W
open Go Go.RowKit Go.ChangeShapes
section
variable {H : Type} {enc : TypeId × Value → H} {W : World}
def goodStroke (a : Stroke) : Prop := (fun n => IntKind.i64.min ≤ n ∧ n ≤ IntKind.i64.max) a.actuator ∧ (fun _ => True) a.out
theorem reads_Stroke112 : Reads enc Tryz.prog W 112 encStroke goodStroke := fun fuel cs x h => by
  obtain ⟨hl, hf⟩ := reads_fields Tryz.underlying112 h
  have ct : Tryz.prog.cellsOf 112 = 2 := by kernel_rfl
  rw [ct] at hl
  obtain ⟨m0, y0, h0⟩ := hf 0 _ rfl
  have c0 : Tryz.prog.cellsOf 3 = 1 := by kernel_rfl
  obtain ⟨a0, e0, g0⟩ := (reads_int Tryz.underlying3) _ _ _ h0
  replace e0 : (cs.drop 0).take 1 = [(.int .i64 a0)] := (congrArg (fun n => (cs.drop 0).take n) c0.symm).trans e0
  obtain ⟨m1, y1, h1⟩ := hf 1 _ rfl
  have c1 : Tryz.prog.cellsOf 4 = 1 := by kernel_rfl
  obtain ⟨a1, e1, g1⟩ := (reads_bool Tryz.underlying4) _ _ _ h1
  replace e1 : (cs.drop 1).take 1 = [(.bool a1)] := (congrArg (fun n => (cs.drop 1).take n) c1.symm).trans e1
  match cs, hl, e0, e1 with
  | [v0, v1], _, e0, e1 =>
    cases e0
    cases e1
    exact ⟨⟨a0, a1⟩, rfl, ⟨g0, g1⟩⟩
def goodStep (a : Step) : Prop := (a.strokes.length ≤ maxLen ∧ ∀ x ∈ a.strokes, goodStroke x) ∧ (fun n => IntKind.i64.min ≤ n ∧ n ≤ IntKind.i64.max) a.wait
theorem reads_Step25 : Reads enc Tryz.prog W 25 encStep goodStep := fun fuel cs x h => by
  obtain ⟨hl, hf⟩ := reads_fields Tryz.underlying25 h
  have ct : Tryz.prog.cellsOf 25 = 2 := by kernel_rfl
  rw [ct] at hl
  obtain ⟨m0, y0, h0⟩ := hf 0 _ rfl
  have c0 : Tryz.prog.cellsOf 23 = 1 := by kernel_rfl
  obtain ⟨ao0, a0, cap0, e0, s0, k0, q0, g0⟩ := reads_slice Tryz.underlying23 (by kernel_rfl) (reads_Stroke112) _ _ _ h0
  replace e0 : (cs.drop 0).take 1 = [.slice ao0 a0.length cap0] := (congrArg (fun n => (cs.drop 0).take n) c0.symm).trans e0
  obtain ⟨m1, y1, h1⟩ := hf 1 _ rfl
  have c1 : Tryz.prog.cellsOf 3 = 1 := by kernel_rfl
  obtain ⟨a1, e1, g1⟩ := (reads_int Tryz.underlying3) _ _ _ h1
  replace e1 : (cs.drop 1).take 1 = [(.int .i64 a1)] := (congrArg (fun n => (cs.drop 1).take n) c1.symm).trans e1
  match cs, hl, e0, e1 with
  | [v0, v1], _, e0, e1 =>
    cases e0
    cases e1
    exact ⟨⟨a0, a1⟩, ⟨ao0, cap0, rfl, s0, k0⟩, ⟨⟨Nat.le_trans k0 q0, g0⟩, g1⟩⟩
theorem reads_slice_at {P : Program} {t e : TypeId} {α : Type} {E : Enc α} {good : α → Prop} (ht : P.underlying t = some (.slice e)) (hc : P.cellsOf e = E.size) {fuel : Nat} {cs : List Value} {x : DataW H × List MemPlace}
    (h : ∀ n, n < fuel → ∀ cs x, DataW.trod enc P W 0 (fun _ => true) true n e cs = some x → ∃ a, E.rep (hp W) a cs ∧ good a) (hx : DataW.trod enc P W 0 (fun _ => true) true fuel t cs = some x) :
    ∃ ao l cap, cs = [.slice ao l.length cap] ∧ SL (hp W) E ao l ∧ l.length ≤ cap ∧ cap ≤ maxLen ∧ ∀ a ∈ l, good a := by
  rcases DataW.trod_slice ht hx with ⟨e1, _⟩ | ⟨a, len, cap, elems, rest, n, hn, e1, _, _, hl, hm, hlen, hel, _⟩
  · exact ⟨none, [], 0, e1, SL.nil _ _ _, Nat.le_refl _, Nat.zero_le _, fun a ha => by cases ha⟩
  · have one : ∀ i, i < len → ∃ x : α, (∃ cs', W.cells? 0 (a.add (i * E.size)) E.size = some cs' ∧ E.rep (hp W) x cs') ∧ good x := fun i hi => by
      have := hel i hi
      rw [List.getElem?_eq_getElem (by omega)] at this
      obtain ⟨cs', h1, h2⟩ := Option.bind_eq_some_iff.1 this
      obtain ⟨y, h3, h4⟩ := h n (by omega) _ _ h2
      rw [hc] at h1
      exact ⟨y, ⟨cs', h1, h3⟩, h4⟩
    obtain ⟨l, h1, h2⟩ := list_of len one
    subst h1
    refine ⟨some a, l, cap, e1, fun i x hx => ?_, hl, hm, fun x hx => ?_⟩
    · obtain ⟨⟨cs', h3, h4⟩, _⟩ := h2 i x hx
      refine ⟨cs', h4, fun j u hu => ⟨a, rfl, ?_⟩⟩
      have := (cells?_row h3).2 j u hu
      rw [add_add] at this
      exact this
    · obtain ⟨i, hi⟩ := List.getElem?_of_mem hx
      exact (h2 i x hi).2
theorem reads_fields_at {P : Program} {t : TypeId} {fs : Array Field} {fuel : Nat} {cs : List Value} {x : DataW H × List MemPlace} (ht : P.underlying t = some (.struct fs)) (h : DataW.trod enc P W 0 (fun _ => true) true fuel t cs = some x) :
    ∃ n, fuel = n + 1 ∧ cs.length = P.cellsOf t ∧ ∀ (i : Nat) (f : Field), fs[i]? = some f → ∃ y, DataW.trod enc P W 0 (fun _ => true) true n f.type ((cs.drop f.offset).take (P.cellsOf f.type)) = some y := by
  obtain ⟨xs, n, hn, _, h1, h2, h3⟩ := DataW.trod_struct ht h
  refine ⟨n, hn, h1, fun i f hf => ?_⟩
  have := h3 i f hf
  have hi : i < xs.length := by rw [h2]; exact (Array.getElem?_eq_some_iff.1 hf).1
  rw [List.getElem?_eq_getElem hi] at this
  exact ⟨_, this⟩
theorem reads_Node_at : ∀ (fuel : Nat) (cs : List Value) (x : DataW H × List MemPlace), DataW.trod enc Tryz.prog W 0 (fun _ => true) true fuel 28 cs = some x → ∃ a, encNode.rep (hp W) a cs ∧ GoodN a := by
  intro fuel
  induction fuel using Nat.strongRecOn with
  | _ fuel ih =>
    intro cs x h
    obtain ⟨n, hn, hl, hf⟩ := reads_fields_at Tryz.underlying28 h
    have ct : Tryz.prog.cellsOf 28 = 6 := by kernel_rfl
    rw [ct] at hl
    obtain ⟨y0, h0⟩ := hf 0 _ rfl
    obtain ⟨y1, h1⟩ := hf 1 _ rfl
    obtain ⟨y2, h2⟩ := hf 2 _ rfl
    obtain ⟨y3, h3⟩ := hf 3 _ rfl
    obtain ⟨y4, h4⟩ := hf 4 _ rfl
    have c0 : Tryz.prog.cellsOf 3 = 1 := by kernel_rfl
    have c1 : Tryz.prog.cellsOf 25 = 2 := by kernel_rfl
    have c2 : Tryz.prog.cellsOf 3 = 1 := by kernel_rfl
    have c3 : Tryz.prog.cellsOf 9 = 1 := by kernel_rfl
    have c4 : Tryz.prog.cellsOf 26 = 1 := by kernel_rfl
    obtain ⟨a0, e0, g0⟩ := (reads_int Tryz.underlying3) _ _ _ h0
    obtain ⟨a1, e1, g1⟩ := (reads_Step25) _ _ _ h1
    obtain ⟨aa, ac, e1, s1, k1⟩ := e1
    obtain ⟨a2, e2, g2⟩ := (reads_int Tryz.underlying3) _ _ _ h2
    obtain ⟨a3, e3, g3⟩ := (reads_str Tryz.underlying9) _ _ _ h3
    obtain ⟨ao4, a4, cap4, e4, s4, k4, q4, g4⟩ := reads_slice_at (E := encNode) (good := GoodN) Tryz.underlying26 (by kernel_rfl) (fun m hm => ih m (by omega)) h4
    replace e0 : (cs.drop 0).take 1 = [.int .i64 a0] := (congrArg (fun n => (cs.drop 0).take n) c0.symm).trans e0
    replace e1 : (cs.drop 1).take 2 = [.slice aa a1.strokes.length ac, .int .i64 a1.wait] := (congrArg (fun n => (cs.drop 1).take n) c1.symm).trans e1
    replace e2 : (cs.drop 3).take 1 = [.int .i64 a2] := (congrArg (fun n => (cs.drop 3).take n) c2.symm).trans e2
    replace e3 : (cs.drop 4).take 1 = [mkS a3] := (congrArg (fun n => (cs.drop 4).take n) c3.symm).trans e3
    replace e4 : (cs.drop 5).take 1 = [.slice ao4 a4.length cap4] := (congrArg (fun n => (cs.drop 5).take n) c4.symm).trans e4
    match cs, hl, e0, e1, e2, e3, e4 with
    | [v0, v1, v2, v3, v4, v5], _, e0, e1, e2, e3, e4 =>
      cases e0
      cases e1
      cases e2
      cases e3
      cases e4
      exact ⟨⟨a0, a1, a2, a3, a4⟩, encNode_make ⟨aa, ac, ao4, cap4, rfl, s1, k1, s4, k4⟩, .mk _ g1.1.1 g3 (Nat.le_trans k4 q4) g4⟩
theorem reads_Node28 : Reads enc Tryz.prog W 28 encNode GoodN := fun fuel cs x h => reads_Node_at fuel cs x h

end
end Go.Proofs.YtgpfgnpdbmbknaaGreatDoor.W
