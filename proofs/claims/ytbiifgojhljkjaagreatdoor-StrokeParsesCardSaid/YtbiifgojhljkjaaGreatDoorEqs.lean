/- Structs held against each other. Written by our own program gen.py; Lean checks it. -/
import Derived.Test.YtbiifgojhljkjaaGreatDoorPlain
import Derived.Test.YtbiifgojhljkjaaGreatDoorProg
set_option linter.unusedVariables false
set_option maxRecDepth 100000
set_option maxHeartbeats 4000000
namespace Go.Proofs.YtbiifgojhljkjaaGreatDoor.W
open Go Go.RowKit
theorem neq_struct53 {n : Nat} {o : Oper} {g : Frm} {S : Pred} {x y : Operand} {T' : TypeId} {a b : Stroke} (h : o.op = .binOp .neq 53 x y T') (hx : ev g x = some (.agg #[(.int .i64 a.actuator), (.bool a.out)])) (hy : ev g y = some (.agg #[(.int .i64 b.actuator), (.bool b.out)])) : OV Tryz.prog n o g S (.bool (!(a == b))) := by
  have e : (a == b) = (a.actuator == b.actuator && (a.out == b.out && true)) := by
    cases a; cases b; rw [Bool.eq_iff_iff]; simp
  rw [e]
  exact ov_neq_struct Tryz.eqGuardType53 Tryz.stoodInHeld53 Tryz.underlying53 (eqFields_cons (by decide) (part_one Tryz.isAgg3 rfl) (part_one Tryz.isAgg3 rfl) (eqIn_int Tryz.underlying3) (eqFields_cons (by decide) (part_one Tryz.isAgg4 rfl) (part_one Tryz.isAgg4 rfl) (eqIn_bool Tryz.underlying4) (fun _ => rfl))) h hx hy

end Go.Proofs.YtbiifgojhljkjaaGreatDoor.W
