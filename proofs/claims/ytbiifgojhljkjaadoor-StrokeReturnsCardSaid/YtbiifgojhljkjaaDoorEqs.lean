/- Structs held against each other. Written by our own program gen.py; Lean checks it. -/
import Derived.Test.YtbiifgojhljkjaaDoorPlain
import Derived.Test.YtbiifgojhljkjaaDoorProg
set_option linter.unusedVariables false
set_option maxRecDepth 100000
set_option maxHeartbeats 4000000
namespace Go.Proofs.YtbiifgojhljkjaaDoor.W
open Go Go.RowKit
theorem eql_struct51 {n : Nat} {o : Oper} {g : Frm} {S : Pred} {x y : Operand} {T' : TypeId} {a b : Stroke} (h : o.op = .binOp .eql 51 x y T') (hx : ev g x = some (.agg #[(.int .i64 a.actuator), (.bool a.out)])) (hy : ev g y = some (.agg #[(.int .i64 b.actuator), (.bool b.out)])) : OV Tryd.prog n o g S (.bool (a == b)) := by
  have e : (a == b) = (a.actuator == b.actuator && (a.out == b.out && true)) := by
    cases a; cases b; rw [Bool.eq_iff_iff]; simp
  rw [e]
  exact ov_eql_struct Tryd.eqGuardType51 Tryd.stoodInHeld51 Tryd.underlying51 (eqFields_cons (by decide) (part_one Tryd.isAgg3 rfl) (part_one Tryd.isAgg3 rfl) (eqIn_int Tryd.underlying3) (eqFields_cons (by decide) (part_one Tryd.isAgg4 rfl) (part_one Tryd.isAgg4 rfl) (eqIn_bool Tryd.underlying4) (fun _ => rfl))) h hx hy

theorem neq_struct51 {n : Nat} {o : Oper} {g : Frm} {S : Pred} {x y : Operand} {T' : TypeId} {a b : Stroke} (h : o.op = .binOp .neq 51 x y T') (hx : ev g x = some (.agg #[(.int .i64 a.actuator), (.bool a.out)])) (hy : ev g y = some (.agg #[(.int .i64 b.actuator), (.bool b.out)])) : OV Tryd.prog n o g S (.bool (!(a == b))) := by
  have e : (a == b) = (a.actuator == b.actuator && (a.out == b.out && true)) := by
    cases a; cases b; rw [Bool.eq_iff_iff]; simp
  rw [e]
  exact ov_neq_struct Tryd.eqGuardType51 Tryd.stoodInHeld51 Tryd.underlying51 (eqFields_cons (by decide) (part_one Tryd.isAgg3 rfl) (part_one Tryd.isAgg3 rfl) (eqIn_int Tryd.underlying3) (eqFields_cons (by decide) (part_one Tryd.isAgg4 rfl) (part_one Tryd.isAgg4 rfl) (eqIn_bool Tryd.underlying4) (fun _ => rfl))) h hx hy

end Go.Proofs.YtbiifgojhljkjaaDoor.W
