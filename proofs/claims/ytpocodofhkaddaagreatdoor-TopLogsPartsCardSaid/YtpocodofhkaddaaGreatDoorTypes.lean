/- The types of the plain functions. Written by our own program gen.py; Lean checks it. -/
import Derived.Test.YtpocodofhkaddaaGreatDoorLibH
import Derived.Test.YtpocodofhkaddaaGreatDoorLibL
import Derived.Test.YtpocodofhkaddaaGreatDoorLibO
set_option linter.unusedVariables false
set_option maxRecDepth 100000
set_option maxHeartbeats 4000000
namespace Go.Proofs.YtpocodofhkaddaaGreatDoor.W
open Go Go.RowKit
structure Entry where
  kind : Int
  name : List UInt8
  count : Int
  strokes : Int
  deriving DecidableEq, Repr
def encEntry : Enc Entry := Enc.flat 4 (fun x => [(.int .i64 x.kind), (mkS x.name), (.int .i64 x.count), (.int .i64 x.strokes)]) (fun _ => rfl)
theorem one_encEntry : ∀ H x cs, encEntry.rep H x cs → cs.all (·.oneCell') = true := fun _ _ _ h => by cases h; rfl
structure Item where
  name : List UInt8
  life : Int
  used : Int
  faults : Int
  faulty : Bool
  since : Int
  cycles : Int
  deriving DecidableEq, Repr
def encItem : Enc Item := Enc.flat 7 (fun x => [(mkS x.name), (.int .i64 x.life), (.int .i64 x.used), (.int .i64 x.faults), (.bool x.faulty), (.int .i64 x.since), (.int .i64 x.cycles)]) (fun _ => rfl)
theorem one_encItem : ∀ H x cs, encItem.rep H x cs → cs.all (·.oneCell') = true := fun _ _ _ h => by cases h; rfl
structure Machine where
  items : List Item
  cycles : Int
  deriving DecidableEq, Repr
def encMachine : Enc Machine where
  size := 2
  rep := fun H x cs => ∃ (ao1 : Option Addr) (cap1 : Nat), cs = [(.slice ao1 x.items.length cap1), (.int .i64 x.cycles)] ∧ SL H encItem ao1 x.items ∧ x.items.length ≤ cap1
  len := fun h => by obtain ⟨_, _, rfl, _⟩ := h; rfl
  mono := fun k h => by
    obtain ⟨ao1, cap1, rfl, h1, hc1⟩ := h
    exact ⟨ao1, cap1, rfl, h1.mono k, hc1⟩
structure JRead where
  m : Machine
  mark : Int
  lines : Int
  size : Int
  deriving DecidableEq, Repr
def encJRead : Enc JRead where
  size := 5
  rep := fun H x cs => ∃ (ao1 : Option Addr) (cap1 : Nat), cs = [(.slice ao1 x.m.items.length cap1), (.int .i64 x.m.cycles), (.int .i64 x.mark), (.int .i64 x.lines), (.int .i64 x.size)] ∧ SL H encItem ao1 x.m.items ∧ x.m.items.length ≤ cap1
  len := fun h => by obtain ⟨_, _, rfl, _⟩ := h; rfl
  mono := fun k h => by
    obtain ⟨ao1, cap1, rfl, h1, hc1⟩ := h
    exact ⟨ao1, cap1, rfl, h1.mono k, hc1⟩
structure B3 where
  a0 : Int
  a1 : Int
  a2 : Int
  deriving DecidableEq, Repr
def encB3 : Enc B3 := Enc.flat 3 (fun x => [(.int .u8 x.a0), (.int .u8 x.a1), (.int .u8 x.a2)]) (fun _ => rfl)
theorem one_encB3 : ∀ H x cs, encB3.rep H x cs → cs.all (·.oneCell') = true := fun _ _ _ h => by cases h; rfl
end Go.Proofs.YtpocodofhkaddaaGreatDoor.W
