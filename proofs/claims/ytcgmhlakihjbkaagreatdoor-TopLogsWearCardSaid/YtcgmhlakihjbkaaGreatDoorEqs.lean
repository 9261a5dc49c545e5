/- Structs held against each other. Written by our own program gen.py; Lean checks it. -/
import Derived.Test.YtcgmhlakihjbkaaGreatDoorPlain
import Derived.Test.YtcgmhlakihjbkaaGreatDoorProg
set_option linter.unusedVariables false
set_option maxRecDepth 100000
set_option maxHeartbeats 4000000
namespace Go.Proofs.YtcgmhlakihjbkaaGreatDoor.W
open Go Go.RowKit
theorem neq_struct92 {n : Nat} {o : Oper} {g : Frm} {S : Pred} {x y : Operand} {T' : TypeId} {a b : Ends6} (h : o.op = .binOp .neq 92 x y T') (hx : ev g x = some (.agg #[(.bool a.a0), (.bool a.a1), (.bool a.a2), (.bool a.a3), (.bool a.a4), (.bool a.a5)])) (hy : ev g y = some (.agg #[(.bool b.a0), (.bool b.a1), (.bool b.a2), (.bool b.a3), (.bool b.a4), (.bool b.a5)])) : OV Tryz.prog n o g S (.bool (!(a == b))) := by
  have e : (a == b) = (([a.a0, a.a1, a.a2, a.a3, a.a4, a.a5] : List Bool) == [b.a0, b.a1, b.a2, b.a3, b.a4, b.a5]) := by
    cases a; cases b; rw [Bool.eq_iff_iff]; simp
  rw [e]
  exact ov_neq_bools (xs := [a.a0, a.a1, a.a2, a.a3, a.a4, a.a5]) (ys := [b.a0, b.a1, b.a2, b.a3, b.a4, b.a5]) Tryz.eqGuardType92 Tryz.underlying92 Tryz.underlying4 Tryz.sizeOf4 rfl rfl h hx hy

end Go.Proofs.YtcgmhlakihjbkaaGreatDoor.W
