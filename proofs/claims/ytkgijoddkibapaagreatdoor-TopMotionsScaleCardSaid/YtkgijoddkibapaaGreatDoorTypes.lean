import Derived.Test.YtkgijoddkibapaaGreatDoorLibR
set_option linter.unusedVariables false
set_option maxRecDepth 100000
set_option maxHeartbeats 4000000
namespace Go.Proofs.YtkgijoddkibapaaGreatDoor.W
open Go Go.RowKit
structure Stroke where
  actuator : Int
  out : Bool
  deriving DecidableEq, Repr
def encStroke : Enc Stroke := Enc.flat 2 (fun x => [(.int .i64 x.actuator), (.bool x.out)]) (fun _ => rfl)
theorem one_encStroke : ∀ H x cs, encStroke.rep H x cs → cs.all (·.oneCell') = true := fun _ _ _ h => by cases h; rfl
structure Step where
  strokes : List Stroke
  wait : Int
  deriving DecidableEq, Repr
def encStep : Enc Step where
  size := 2
  rep := fun H x cs => ∃ (ao1 : Option Addr) (cap1 : Nat), cs = [(.slice ao1 x.strokes.length cap1), (.int .i64 x.wait)] ∧ SL H encStroke ao1 x.strokes ∧ x.strokes.length ≤ cap1
  len := fun h => by obtain ⟨_, _, rfl, _⟩ := h; rfl
  mono := fun k h => by
    obtain ⟨ao1, cap1, rfl, h1, hc1⟩ := h
    exact ⟨ao1, cap1, rfl, h1.mono k, hc1⟩
theorem one_encStep : ∀ H x cs, encStep.rep H x cs → cs.all (·.oneCell') = true := fun _ _ _ h => by obtain ⟨_, _, rfl, _⟩ := h; rfl
structure Sequence where
  actuators : Int
  steps : List Step
  deriving DecidableEq, Repr
def encSequence : Enc Sequence where
  size := 2
  rep := fun H x cs => ∃ (ao1 : Option Addr) (cap1 : Nat), cs = [(.int .i64 x.actuators), (.slice ao1 x.steps.length cap1)] ∧ SL H encStep ao1 x.steps ∧ x.steps.length ≤ cap1
  len := fun h => by obtain ⟨_, _, rfl, _⟩ := h; rfl
  mono := fun k h => by
    obtain ⟨ao1, cap1, rfl, h1, hc1⟩ := h
    exact ⟨ao1, cap1, rfl, h1.mono k, hc1⟩
theorem one_encSequence : ∀ H x cs, encSequence.rep H x cs → cs.all (·.oneCell') = true := fun _ _ _ h => by obtain ⟨_, _, rfl, _⟩ := h; rfl
structure Span where
  low : Int
  high : Int
  deriving DecidableEq, Repr
def encSpan : Enc Span := Enc.flat 2 (fun x => [(.int .i64 x.low), (.int .i64 x.high)]) (fun _ => rfl)
theorem one_encSpan : ∀ H x cs, encSpan.rep H x cs → cs.all (·.oneCell') = true := fun _ _ _ h => by cases h; rfl
structure Travel where
  out : Span
  in_ : Span
  deriving DecidableEq, Repr
def encTravel : Enc Travel := Enc.flat 4 (fun x => [(.int .i64 x.out.low), (.int .i64 x.out.high), (.int .i64 x.in_.low), (.int .i64 x.in_.high)]) (fun _ => rfl)
theorem one_encTravel : ∀ H x cs, encTravel.rep H x cs → cs.all (·.oneCell') = true := fun _ _ _ h => by cases h; rfl
structure Plant where
  travels : List Travel
  deriving DecidableEq, Repr
def encPlant : Enc Plant where
  size := 1
  rep := fun H x cs => ∃ (ao1 : Option Addr) (cap1 : Nat), cs = [(.slice ao1 x.travels.length cap1)] ∧ SL H encTravel ao1 x.travels ∧ x.travels.length ≤ cap1
  len := fun h => by obtain ⟨_, _, rfl, _⟩ := h; rfl
  mono := fun k h => by
    obtain ⟨ao1, cap1, rfl, h1, hc1⟩ := h
    exact ⟨ao1, cap1, rfl, h1.mono k, hc1⟩
theorem one_encPlant : ∀ H x cs, encPlant.rep H x cs → cs.all (·.oneCell') = true := fun _ _ _ h => by obtain ⟨_, _, rfl, _⟩ := h; rfl
structure Node where
  kind : Int
  step : Step
  count : Int
  name : List UInt8
  nodes : List Node
inductive NodeRep (H : Heap) : Node → List Value → Prop
  | mk (x : Node) (ao : Option Addr) (cap : Nat) (ao' : Option Addr) (cap' : Nat) (ds : Nat → List Value) (h1 : SL H encStroke ao x.step.strokes) (h2 : x.step.strokes.length ≤ cap)
      (h3 : ∀ i y, x.nodes[i]? = some y → NodeRep H y (ds i)) (h4 : ∀ i y, x.nodes[i]? = some y → RowAt H ao' (i * 6) (ds i)) (h5 : x.nodes.length ≤ cap') :
      NodeRep H x [.int .i64 x.kind, .slice ao x.step.strokes.length cap, .int .i64 x.step.wait, .int .i64 x.count, mkS x.name, .slice ao' x.nodes.length cap']
theorem NodeRep.mono {H H' : Heap} (k : Le H H') {x : Node} {cs : List Value} (h : NodeRep H x cs) : NodeRep H' x cs := by
  induction h with
  | mk x ao cap ao' cap' ds h1 h2 h3 h4 h5 ih => exact .mk x ao cap ao' cap' ds (h1.mono k) h2 ih (fun i y e => (h4 i y e).mono k) h5
theorem NodeRep.len {H : Heap} {x : Node} {cs : List Value} (h : NodeRep H x cs) : cs.length = 6 := by cases h; rfl
def encNode : Enc Node where
  size := 6
  rep := NodeRep
  len := fun h => h.len
  mono := fun k h => h.mono k
theorem one_encNode : ∀ H x cs, encNode.rep H x cs → cs.all (·.oneCell') = true := fun _ _ _ h => by cases h; rfl
theorem encNode_open {H : Heap} {x : Node} {cs : List Value} (h : encNode.rep H x cs) : ∃ (ao : Option Addr) (cap : Nat) (ao' : Option Addr) (cap' : Nat),
    cs = [.int .i64 x.kind, .slice ao x.step.strokes.length cap, .int .i64 x.step.wait, .int .i64 x.count, mkS x.name, .slice ao' x.nodes.length cap'] ∧ SL H encStroke ao x.step.strokes ∧ x.step.strokes.length ≤ cap ∧ SL H encNode ao' x.nodes ∧ x.nodes.length ≤ cap' := by
  cases h with
  | mk _ ao cap ao' cap' ds h1 h2 h3 h4 h5 => exact ⟨ao, cap, ao', cap', rfl, h1, h2, fun i y e => ⟨ds i, h3 i y e, h4 i y e⟩, h5⟩
theorem encNode_make {H : Heap} {x : Node} {cs : List Value} (h : ∃ (ao : Option Addr) (cap : Nat) (ao' : Option Addr) (cap' : Nat),
    cs = [.int .i64 x.kind, .slice ao x.step.strokes.length cap, .int .i64 x.step.wait, .int .i64 x.count, mkS x.name, .slice ao' x.nodes.length cap'] ∧ SL H encStroke ao x.step.strokes ∧ x.step.strokes.length ≤ cap ∧ SL H encNode ao' x.nodes ∧ x.nodes.length ≤ cap') : encNode.rep H x cs := by
  obtain ⟨ao, cap, ao', cap', rfl, h1, h2, h3, h4⟩ := h
  have key : ∀ i : Nat, ∃ ds, ∀ y, x.nodes[i]? = some y → NodeRep H y ds ∧ RowAt H ao' (i * 6) ds := fun i => by
    cases e : x.nodes[i]? with
    | none => exact ⟨[], fun y q => by cases q⟩
    | some y => obtain ⟨ds, a, b⟩ := h3 i y e; exact ⟨ds, fun z q => by cases q; exact ⟨a, b⟩⟩
  exact .mk x ao cap ao' cap' (fun i => (key i).choose) h1 h2 (fun i y e => ((key i).choose_spec y e).1) (fun i y e => ((key i).choose_spec y e).2) h4
inductive Motion where
  | single (step : Step)
  | list (parts : List Motion)
  | repeat_ (count : Int) (part : Motion)
  | choice (name : List UInt8) (then_ other : Motion)
namespace Motion
def isSingle : Motion → Bool | .single _ => true | _ => false
def isList : Motion → Bool | .list _ => true | _ => false
def isRepeat : Motion → Bool | .repeat_ _ _ => true | _ => false
def isChoice : Motion → Bool | .choice _ _ _ => true | _ => false
def stp : Motion → Step | .single s => s | _ => ⟨[], 0⟩
def prts : Motion → List Motion | .list l => l | _ => []
def cnt : Motion → Int | .repeat_ n _ => n | _ => 0
def prt : Motion → Motion | .repeat_ _ m => m | m => m
def nm : Motion → List UInt8 | .choice n _ _ => n | _ => []
def thn : Motion → Motion | .choice _ a _ => a | m => m
def oth : Motion → Motion | .choice _ _ b => b | m => m
end Motion
inductive MotionRep (H : Heap) : Motion → Value → Prop
  | single (s : Step) (ao : Option Addr) (cap : Nat) (h1 : SL H encStroke ao s.strokes) (h2 : s.strokes.length ≤ cap) : MotionRep H (.single s) (.iface 204 (.agg #[.slice ao s.strokes.length cap, .int .i64 s.wait]))
  | list (l : List Motion) (ao : Option Addr) (cap : Nat) (ds : Nat → Value) (h1 : ∀ i y, l[i]? = some y → MotionRep H y (ds i)) (h2 : ∀ i y, l[i]? = some y → RowAt H ao (i * 1) [ds i]) (h3 : l.length ≤ cap) :
      MotionRep H (.list l) (.iface 206 (.agg #[.slice ao l.length cap]))
  | repeat_ (n : Int) (m : Motion) (v : Value) (h : MotionRep H m v) : MotionRep H (.repeat_ n m) (.iface 208 (.agg #[.int .i64 n, v]))
  | choice (n : List UInt8) (a b : Motion) (u v : Value) (h : MotionRep H a u) (k : MotionRep H b v) : MotionRep H (.choice n a b) (.iface 210 (.agg #[mkS n, u, v]))
theorem MotionRep.mono {H H' : Heap} (k : Le H H') {m : Motion} {v : Value} (h : MotionRep H m v) : MotionRep H' m v := by
  induction h with
  | single s ao cap h1 h2 => exact .single s ao cap (h1.mono k) h2
  | list l ao cap ds h1 h2 h3 ih => exact .list l ao cap ds ih (fun i y e => (h2 i y e).mono k) h3
  | repeat_ n m v h ih => exact .repeat_ n m v ih
  | choice n a b u v h1 h2 ih1 ih2 => exact .choice n a b u v ih1 ih2
def encMotion : Enc Motion where
  size := 1
  rep := fun H m cs => ∃ t c, cs = [.iface t c] ∧ MotionRep H m (.iface t c)
  len := fun h => by obtain ⟨_, _, rfl, _⟩ := h; rfl
  mono := fun k h => by obtain ⟨t, c, rfl, h⟩ := h; exact ⟨t, c, rfl, h.mono k⟩
theorem one_encMotion : ∀ H x cs, encMotion.rep H x cs → cs.all (·.oneCell') = true := fun _ _ _ h => by obtain ⟨t, c, rfl, h⟩ := h; rfl
theorem MotionRep.iface {H : Heap} {m : Motion} {v : Value} (h : MotionRep H m v) : ∃ t c, v = .iface t c := by cases h <;> exact ⟨_, _, rfl⟩
section
variable {H : Heap} {m : Motion} {v : Value}
theorem MotionRep.open_isSingle (h : MotionRep H m v) (e : m.isSingle = true) : ∃ (ao : Option Addr) (cap : Nat), v = .iface 204 (.agg #[.slice ao m.stp.strokes.length cap, .int .i64 m.stp.wait]) ∧ SL H encStroke ao m.stp.strokes ∧ m.stp.strokes.length ≤ cap := by
  cases h with
  | single s ao cap h1 h2 => exact ⟨ao, cap, rfl, h1, h2⟩
  | _ => cases e
theorem MotionRep.open_isList (h : MotionRep H m v) (e : m.isList = true) : ∃ (ao : Option Addr) (cap : Nat), v = .iface 206 (.agg #[.slice ao m.prts.length cap]) ∧ SL H encMotion ao m.prts ∧ m.prts.length ≤ cap := by
  cases h with
  | list l ao cap ds h1 h2 h3 => exact ⟨ao, cap, rfl, fun i y e => by
      obtain ⟨t, c, hv⟩ := (h1 i y e).iface
      exact ⟨[ds i], ⟨t, c, by rw [hv], by rw [← hv]; exact h1 i y e⟩, h2 i y e⟩, h3⟩
  | _ => cases e
theorem MotionRep.open_isRepeat (h : MotionRep H m v) (e : m.isRepeat = true) : ∃ (t : TypeId) (c : Value), v = .iface 208 (.agg #[.int .i64 m.cnt, .iface t c]) ∧ MotionRep H m.prt (.iface t c) := by
  cases h with
  | repeat_ n m u h => obtain ⟨t, c, rfl⟩ := h.iface; exact ⟨t, c, rfl, h⟩
  | _ => cases e
theorem MotionRep.open_isChoice (h : MotionRep H m v) (e : m.isChoice = true) : ∃ (t : TypeId) (c : Value) (t' : TypeId) (c' : Value), v = .iface 210 (.agg #[mkS m.nm, .iface t c, .iface t' c']) ∧ MotionRep H m.thn (.iface t c) ∧ MotionRep H m.oth (.iface t' c') := by
  cases h with
  | choice n a b u u' h k => obtain ⟨t, c, rfl⟩ := h.iface; obtain ⟨t', c', rfl⟩ := k.iface; exact ⟨t, c, t', c', rfl, h, k⟩
  | _ => cases e
theorem MotionRep.not_isSingle (h : MotionRep H m v) (e : m.isSingle = false) : ∃ t c, v = .iface t c ∧ (t == 204) = false := by
  cases h with
  | single => cases e
  | _ => exact ⟨_, _, rfl, rfl⟩
theorem MotionRep.not_isList (h : MotionRep H m v) (e : m.isList = false) : ∃ t c, v = .iface t c ∧ (t == 206) = false := by
  cases h with
  | list => cases e
  | _ => exact ⟨_, _, rfl, rfl⟩
theorem MotionRep.not_isRepeat (h : MotionRep H m v) (e : m.isRepeat = false) : ∃ t c, v = .iface t c ∧ (t == 208) = false := by
  cases h with
  | repeat_ => cases e
  | _ => exact ⟨_, _, rfl, rfl⟩
theorem MotionRep.not_isChoice (h : MotionRep H m v) (e : m.isChoice = false) : ∃ t c, v = .iface t c ∧ (t == 210) = false := by
  cases h with
  | choice => cases e
  | _ => exact ⟨_, _, rfl, rfl⟩
theorem MotionRep.mk_single {s : Step} {ao : Option Addr} {cap : Nat} (h1 : SL H encStroke ao s.strokes) (h2 : s.strokes.length ≤ cap) : MotionRep H (.single s) (.iface 204 (.agg #[.slice ao s.strokes.length cap, .int .i64 s.wait])) := .single s ao cap h1 h2
theorem MotionRep.mk_list {l : List Motion} {ao : Option Addr} {cap : Nat} (h : SL H encMotion ao l) (h2 : l.length ≤ cap) : MotionRep H (.list l) (.iface 206 (.agg #[.slice ao l.length cap])) := by
  have key : ∀ i : Nat, ∃ d, ∀ y, l[i]? = some y → MotionRep H y d ∧ RowAt H ao (i * 1) [d] := fun i => by
    cases e : l[i]? with
    | none => exact ⟨.nilIface, fun y q => by cases q⟩
    | some y => obtain ⟨ds, ⟨t, c, rfl, a⟩, b⟩ := h i y e; exact ⟨.iface t c, fun z q => by cases q; exact ⟨a, b⟩⟩
  exact .list l ao cap (fun i => (key i).choose) (fun i y e => ((key i).choose_spec y e).1) (fun i y e => ((key i).choose_spec y e).2) h2
theorem MotionRep.mk_repeat {n : Int} {p : Motion} (h : MotionRep H p v) : MotionRep H (.repeat_ n p) (.iface 208 (.agg #[.int .i64 n, v])) := .repeat_ n p v h
theorem MotionRep.mk_choice {n : List UInt8} {a b : Motion} {u : Value} (h : MotionRep H a u) (k : MotionRep H b v) : MotionRep H (.choice n a b) (.iface 210 (.agg #[mkS n, u, v])) := .choice n a b u v h k
end
inductive GoodN : Node → Prop
  | mk (x : Node) (h1 : x.step.strokes.length ≤ maxLen) (h2 : x.name.length ≤ maxLen) (h3 : x.nodes.length ≤ maxLen) (h4 : ∀ y ∈ x.nodes, GoodN y) : GoodN x

structure RSlot where
  begin : Span
  moved : Span
  end_ : Span
  deriving DecidableEq, Repr
def encRSlot : Enc RSlot := Enc.flat 6 (fun x => [(.int .i64 x.begin.low), (.int .i64 x.begin.high), (.int .i64 x.moved.low), (.int .i64 x.moved.high), (.int .i64 x.end_.low), (.int .i64 x.end_.high)]) (fun _ => rfl)
theorem one_encRSlot : ∀ H x cs, encRSlot.rep H x cs → cs.all (·.oneCell') = true := fun _ _ _ h => by cases h; rfl
structure Token where
  kind : Int
  text : List UInt8
  at_ : Int
  deriving DecidableEq, Repr
def encToken : Enc Token := Enc.flat 3 (fun x => [(.int .i64 x.kind), (mkS x.text), (.int .i64 x.at_)]) (fun _ => rfl)
theorem one_encToken : ∀ H x cs, encToken.rep H x cs → cs.all (·.oneCell') = true := fun _ _ _ h => by cases h; rfl
structure Rdr where
  tokens : List Token
  at_ : Int
  bad : Bool
  deriving DecidableEq, Repr
def encRdr : Enc Rdr where
  size := 3
  rep := fun H x cs => ∃ (ao1 : Option Addr) (cap1 : Nat), cs = [(.slice ao1 x.tokens.length cap1), (.int .i64 x.at_), (.bool x.bad)] ∧ SL H encToken ao1 x.tokens ∧ x.tokens.length ≤ cap1
  len := fun h => by obtain ⟨_, _, rfl, _⟩ := h; rfl
  mono := fun k h => by
    obtain ⟨ao1, cap1, rfl, h1, hc1⟩ := h
    exact ⟨ao1, cap1, rfl, h1.mono k, hc1⟩
theorem one_encRdr : ∀ H x cs, encRdr.rep H x cs → cs.all (·.oneCell') = true := fun _ _ _ h => by obtain ⟨_, _, rfl, _⟩ := h; rfl
structure Slot where
  begin : Span
  moved : Span
  end_ : Span
  deriving DecidableEq, Repr
def encSlot : Enc Slot := Enc.flat 6 (fun x => [(.int .i64 x.begin.low), (.int .i64 x.begin.high), (.int .i64 x.moved.low), (.int .i64 x.moved.high), (.int .i64 x.end_.low), (.int .i64 x.end_.high)]) (fun _ => rfl)
theorem one_encSlot : ∀ H x cs, encSlot.rep H x cs → cs.all (·.oneCell') = true := fun _ _ _ h => by cases h; rfl
structure Ends6 where
  a0 : Bool
  a1 : Bool
  a2 : Bool
  a3 : Bool
  a4 : Bool
  a5 : Bool
  deriving DecidableEq, Repr
def encEnds6 : Enc Ends6 := Enc.flat 6 (fun x => [(.bool x.a0), (.bool x.a1), (.bool x.a2), (.bool x.a3), (.bool x.a4), (.bool x.a5)]) (fun _ => rfl)
theorem one_encEnds6 : ∀ H x cs, encEnds6.rep H x cs → cs.all (·.oneCell') = true := fun _ _ _ h => by cases h; rfl
structure Cell where
  first : Int
  second : Int
  deriving DecidableEq, Repr
def encCell : Enc Cell := Enc.flat 2 (fun x => [(.int .u8 x.first), (.int .u8 x.second)]) (fun _ => rfl)
theorem one_encCell : ∀ H x cs, encCell.rep H x cs → cs.all (·.oneCell') = true := fun _ _ _ h => by cases h; rfl
structure B3 where
  a0 : Int
  a1 : Int
  a2 : Int
  deriving DecidableEq, Repr
def encB3 : Enc B3 := Enc.flat 3 (fun x => [(.int .u8 x.a0), (.int .u8 x.a1), (.int .u8 x.a2)]) (fun _ => rfl)
theorem one_encB3 : ∀ H x cs, encB3.rep H x cs → cs.all (·.oneCell') = true := fun _ _ _ h => by cases h; rfl
structure MSingle where
  step : Step
  deriving DecidableEq, Repr
def encMSingle : Enc MSingle where
  size := 2
  rep := fun H x cs => ∃ (ao1 : Option Addr) (cap1 : Nat), cs = [(.slice ao1 x.step.strokes.length cap1), (.int .i64 x.step.wait)] ∧ SL H encStroke ao1 x.step.strokes ∧ x.step.strokes.length ≤ cap1
  len := fun h => by obtain ⟨_, _, rfl, _⟩ := h; rfl
  mono := fun k h => by
    obtain ⟨ao1, cap1, rfl, h1, hc1⟩ := h
    exact ⟨ao1, cap1, rfl, h1.mono k, hc1⟩
theorem one_encMSingle : ∀ H x cs, encMSingle.rep H x cs → cs.all (·.oneCell') = true := fun _ _ _ h => by obtain ⟨_, _, rfl, _⟩ := h; rfl
structure MList where
  parts : List Motion
def encMList : Enc MList where
  size := 1
  rep := fun H x cs => ∃ (ao1 : Option Addr) (cap1 : Nat), cs = [(.slice ao1 x.parts.length cap1)] ∧ SL H encMotion ao1 x.parts ∧ x.parts.length ≤ cap1
  len := fun h => by obtain ⟨_, _, rfl, _⟩ := h; rfl
  mono := fun k h => by
    obtain ⟨ao1, cap1, rfl, h1, hc1⟩ := h
    exact ⟨ao1, cap1, rfl, h1.mono k, hc1⟩
theorem one_encMList : ∀ H x cs, encMList.rep H x cs → cs.all (·.oneCell') = true := fun _ _ _ h => by obtain ⟨_, _, rfl, _⟩ := h; rfl
structure MRepeat where
  count : Int
  part : Motion
def encMRepeat : Enc MRepeat where
  size := 2
  rep := fun H x cs => ∃ (t1 : TypeId) (c1 : Value), cs = [(.int .i64 x.count), (.iface t1 c1)] ∧ MotionRep H x.part (.iface t1 c1)
  len := fun h => by obtain ⟨_, _, rfl, _⟩ := h; rfl
  mono := fun k h => by
    obtain ⟨t1, c1, rfl, h1⟩ := h
    exact ⟨t1, c1, rfl, h1.mono k⟩
theorem one_encMRepeat : ∀ H x cs, encMRepeat.rep H x cs → cs.all (·.oneCell') = true := fun _ _ _ h => by obtain ⟨_, _, rfl, _⟩ := h; rfl
structure MChoice where
  name : List UInt8
  then_ : Motion
  other : Motion
def encMChoice : Enc MChoice where
  size := 3
  rep := fun H x cs => ∃ (t1 : TypeId) (c1 : Value) (t2 : TypeId) (c2 : Value), cs = [(mkS x.name), (.iface t1 c1), (.iface t2 c2)] ∧ MotionRep H x.then_ (.iface t1 c1) ∧ MotionRep H x.other (.iface t2 c2)
  len := fun h => by obtain ⟨_, _, _, _, rfl, _⟩ := h; rfl
  mono := fun k h => by
    obtain ⟨t1, c1, t2, c2, rfl, h1, h2⟩ := h
    exact ⟨t1, c1, t2, c2, rfl, h1.mono k, h2.mono k⟩
theorem one_encMChoice : ∀ H x cs, encMChoice.rep H x cs → cs.all (·.oneCell') = true := fun _ _ _ h => by obtain ⟨_, _, _, _, rfl, _⟩ := h; rfl
def encSeqNode (x : (Int × Node)) (vs : List Value) (H : Heap) : Prop := ∃ (ao1 : Option Addr) (cap1 : Nat) (ao2 : Option Addr) (cap2 : Nat), vs = [(.int .i64 x.1), (.agg #[(.int .i64 x.2.kind), (.slice ao1 x.2.step.strokes.length cap1), (.int .i64 x.2.step.wait), (.int .i64 x.2.count), (mkS x.2.name), (.slice ao2 x.2.nodes.length cap2)])] ∧ SL H encStroke ao1 x.2.step.strokes ∧ x.2.step.strokes.length ≤ cap1 ∧ SL H encNode ao2 x.2.nodes ∧ x.2.nodes.length ≤ cap2
def encSeqStep (x : Step) (vs : List Value) (H : Heap) : Prop := ∃ (ao1 : Option Addr) (cap1 : Nat), vs = [(.agg #[(.slice ao1 x.strokes.length cap1), (.int .i64 x.wait)])] ∧ SL H encStroke ao1 x.strokes ∧ x.strokes.length ≤ cap1
def encSeqSlot (x : (Int × Slot)) (vs : List Value) (H : Heap) : Prop := vs = [(.int .i64 x.1), (.agg #[(.int .i64 x.2.begin.low), (.int .i64 x.2.begin.high), (.int .i64 x.2.moved.low), (.int .i64 x.2.moved.high), (.int .i64 x.2.end_.low), (.int .i64 x.2.end_.high)])]
end Go.Proofs.YtkgijoddkibapaaGreatDoor.W
