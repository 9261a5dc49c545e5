/- The types of the plain functions. Written by our own program gen.py; Lean checks it. -/
import Derived.Test.YtcgmhlakihjbkaaGreatDoorLibH
import Derived.Test.YtcgmhlakihjbkaaGreatDoorLibL
import Derived.Test.YtcgmhlakihjbkaaGreatDoorLibO
set_option linter.unusedVariables false
set_option maxRecDepth 100000
set_option maxHeartbeats 4000000
namespace Go.Proofs.YtcgmhlakihjbkaaGreatDoor.W
open Go Go.RowKit
structure Stroke where
  actuator : Int
  out : Bool
  deriving DecidableEq, Repr
def encStroke : Enc Stroke := Enc.flat 2 (fun x => [(.int .i64 x.actuator), (.bool x.out)]) (fun _ => rfl)
theorem one_encStroke : ∀ H x cs, encStroke.rep H x cs → cs.all (·.oneCell') = true := fun _ _ _ h => by cases h; rfl
structure Step where
  strokes : List Stroke
  wait : Int
  deriving DecidableEq, Repr
def encStep : Enc Step where
  size := 2
  rep := fun H x cs => ∃ (ao1 : Option Addr) (cap1 : Nat), cs = [(.slice ao1 x.strokes.length cap1), (.int .i64 x.wait)] ∧ SL H encStroke ao1 x.strokes ∧ x.strokes.length ≤ cap1
  len := fun h => by obtain ⟨_, _, rfl, _⟩ := h; rfl
  mono := fun k h => by
    obtain ⟨ao1, cap1, rfl, h1, hc1⟩ := h
    exact ⟨ao1, cap1, rfl, h1.mono k, hc1⟩
structure Sequence where
  actuators : Int
  steps : List Step
  deriving DecidableEq, Repr
def encSequence : Enc Sequence where
  size := 2
  rep := fun H x cs => ∃ (ao1 : Option Addr) (cap1 : Nat), cs = [(.int .i64 x.actuators), (.slice ao1 x.steps.length cap1)] ∧ SL H encStep ao1 x.steps ∧ x.steps.length ≤ cap1
  len := fun h => by obtain ⟨_, _, rfl, _⟩ := h; rfl
  mono := fun k h => by
    obtain ⟨ao1, cap1, rfl, h1, hc1⟩ := h
    exact ⟨ao1, cap1, rfl, h1.mono k, hc1⟩
structure Item where
  name : List UInt8
  life : Int
  used : Int
  faults : Int
  faulty : Bool
  since : Int
  cycles : Int
  deriving DecidableEq, Repr
def encItem : Enc Item := Enc.flat 7 (fun x => [(mkS x.name), (.int .i64 x.life), (.int .i64 x.used), (.int .i64 x.faults), (.bool x.faulty), (.int .i64 x.since), (.int .i64 x.cycles)]) (fun _ => rfl)
theorem one_encItem : ∀ H x cs, encItem.rep H x cs → cs.all (·.oneCell') = true := fun _ _ _ h => by cases h; rfl
structure Machine where
  items : List Item
  cycles : Int
  deriving DecidableEq, Repr
def encMachine : Enc Machine where
  size := 2
  rep := fun H x cs => ∃ (ao1 : Option Addr) (cap1 : Nat), cs = [(.slice ao1 x.items.length cap1), (.int .i64 x.cycles)] ∧ SL H encItem ao1 x.items ∧ x.items.length ≤ cap1
  len := fun h => by obtain ⟨_, _, rfl, _⟩ := h; rfl
  mono := fun k h => by
    obtain ⟨ao1, cap1, rfl, h1, hc1⟩ := h
    exact ⟨ao1, cap1, rfl, h1.mono k, hc1⟩
structure Entry where
  kind : Int
  name : List UInt8
  count : Int
  strokes : Int
  deriving DecidableEq, Repr
def encEntry : Enc Entry := Enc.flat 4 (fun x => [(.int .i64 x.kind), (mkS x.name), (.int .i64 x.count), (.int .i64 x.strokes)]) (fun _ => rfl)
theorem one_encEntry : ∀ H x cs, encEntry.rep H x cs → cs.all (·.oneCell') = true := fun _ _ _ h => by cases h; rfl
structure JRead where
  m : Machine
  mark : Int
  lines : Int
  size : Int
  deriving DecidableEq, Repr
def encJRead : Enc JRead where
  size := 5
  rep := fun H x cs => ∃ (ao1 : Option Addr) (cap1 : Nat), cs = [(.slice ao1 x.m.items.length cap1), (.int .i64 x.m.cycles), (.int .i64 x.mark), (.int .i64 x.lines), (.int .i64 x.size)] ∧ SL H encItem ao1 x.m.items ∧ x.m.items.length ≤ cap1
  len := fun h => by obtain ⟨_, _, rfl, _⟩ := h; rfl
  mono := fun k h => by
    obtain ⟨ao1, cap1, rfl, h1, hc1⟩ := h
    exact ⟨ao1, cap1, rfl, h1.mono k, hc1⟩
structure Ends6 where
  a0 : Bool
  a1 : Bool
  a2 : Bool
  a3 : Bool
  a4 : Bool
  a5 : Bool
  deriving DecidableEq, Repr
def encEnds6 : Enc Ends6 := Enc.flat 6 (fun x => [(.bool x.a0), (.bool x.a1), (.bool x.a2), (.bool x.a3), (.bool x.a4), (.bool x.a5)]) (fun _ => rfl)
theorem one_encEnds6 : ∀ H x cs, encEnds6.rep H x cs → cs.all (·.oneCell') = true := fun _ _ _ h => by cases h; rfl
structure B3 where
  a0 : Int
  a1 : Int
  a2 : Int
  deriving DecidableEq, Repr
def encB3 : Enc B3 := Enc.flat 3 (fun x => [(.int .u8 x.a0), (.int .u8 x.a1), (.int .u8 x.a2)]) (fun _ => rfl)
theorem one_encB3 : ∀ H x cs, encB3.rep H x cs → cs.all (·.oneCell') = true := fun _ _ _ h => by cases h; rfl
end Go.Proofs.YtcgmhlakihjbkaaGreatDoor.W
