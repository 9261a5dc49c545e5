import Derived.Test.YtkgijoddkibapaaGreatDoorPlain
import Derived.Test.YtkgijoddkibapaaGreatDoorProg
set_option linter.unusedVariables false
set_option maxRecDepth 100000
set_option maxHeartbeats 4000000
namespace Go.Proofs.YtkgijoddkibapaaGreatDoor.W
open Go Go.RowKit
theorem eql_struct38 {n : Nat} {o : Oper} {g : Frm} {S : Pred} {x y : Operand} {T' : TypeId} {a b : Span} (h : o.op = .binOp .eql 38 x y T') (hx : ev g x = some (.agg #[(.int .i64 a.low), (.int .i64 a.high)])) (hy : ev g y = some (.agg #[(.int .i64 b.low), (.int .i64 b.high)])) : OV Tryz.prog n o g S (.bool (a == b)) := by
  have e : (a == b) = (a.low == b.low && (a.high == b.high && true)) := by
    cases a; cases b; rw [Bool.eq_iff_iff]; simp
  rw [e]
  exact ov_eql_struct Tryz.eqGuardType38 Tryz.stoodInHeld38 Tryz.underlying38 (eqFields_cons (by decide) (part_one Tryz.isAgg3 rfl) (part_one Tryz.isAgg3 rfl) (eqIn_int Tryz.underlying3) (eqFields_cons (by decide) (part_one Tryz.isAgg3 rfl) (part_one Tryz.isAgg3 rfl) (eqIn_int Tryz.underlying3) (fun _ => rfl))) h hx hy

theorem neq_struct103 {n : Nat} {o : Oper} {g : Frm} {S : Pred} {x y : Operand} {T' : TypeId} {a b : Ends6} (h : o.op = .binOp .neq 103 x y T') (hx : ev g x = some (.agg #[(.bool a.a0), (.bool a.a1), (.bool a.a2), (.bool a.a3), (.bool a.a4), (.bool a.a5)])) (hy : ev g y = some (.agg #[(.bool b.a0), (.bool b.a1), (.bool b.a2), (.bool b.a3), (.bool b.a4), (.bool b.a5)])) : OV Tryz.prog n o g S (.bool (!(a == b))) := by
  have e : (a == b) = (([a.a0, a.a1, a.a2, a.a3, a.a4, a.a5] : List Bool) == [b.a0, b.a1, b.a2, b.a3, b.a4, b.a5]) := by
    cases a; cases b; rw [Bool.eq_iff_iff]; simp
  rw [e]
  exact ov_neq_bools (xs := [a.a0, a.a1, a.a2, a.a3, a.a4, a.a5]) (ys := [b.a0, b.a1, b.a2, b.a3, b.a4, b.a5]) Tryz.eqGuardType103 Tryz.underlying103 Tryz.underlying4 Tryz.sizeOf4 rfl rfl h hx hy

end Go.Proofs.YtkgijoddkibapaaGreatDoor.W
