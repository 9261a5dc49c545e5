/- Structs held against each other. Written by our own program gen.py; Lean checks it. -/
import Derived.Test.YtpocodofhkaddaaGreatDoorPlain
import Derived.Test.YtpocodofhkaddaaGreatDoorProg
set_option linter.unusedVariables false
set_option maxRecDepth 100000
set_option maxHeartbeats 4000000
namespace Go.Proofs.YtpocodofhkaddaaGreatDoor.W
open Go Go.RowKit
theorem neq_struct61 {n : Nat} {o : Oper} {g : Frm} {S : Pred} {x y : Operand} {T' : TypeId} {a b : Item} (h : o.op = .binOp .neq 61 x y T') (hx : ev g x = some (.agg #[(mkS a.name), (.int .i64 a.life), (.int .i64 a.used), (.int .i64 a.faults), (.bool a.faulty), (.int .i64 a.since), (.int .i64 a.cycles)])) (hy : ev g y = some (.agg #[(mkS b.name), (.int .i64 b.life), (.int .i64 b.used), (.int .i64 b.faults), (.bool b.faulty), (.int .i64 b.since), (.int .i64 b.cycles)])) : OV Tryz.prog n o g S (.bool (!(a == b))) := by
  have e : (a == b) = (a.name == b.name && (a.life == b.life && (a.used == b.used && (a.faults == b.faults && (a.faulty == b.faulty && (a.since == b.since && (a.cycles == b.cycles && true))))))) := by
    cases a; cases b; rw [Bool.eq_iff_iff]; simp
  rw [e]
  exact ov_neq_struct Tryz.eqGuardType61 Tryz.stoodInHeld61 Tryz.underlying61 (eqFields_cons (by decide) (part_one Tryz.isAgg9 rfl) (part_one Tryz.isAgg9 rfl) (eqIn_str Tryz.underlying9) (eqFields_cons (by decide) (part_one Tryz.isAgg3 rfl) (part_one Tryz.isAgg3 rfl) (eqIn_int Tryz.underlying3) (eqFields_cons (by decide) (part_one Tryz.isAgg3 rfl) (part_one Tryz.isAgg3 rfl) (eqIn_int Tryz.underlying3) (eqFields_cons (by decide) (part_one Tryz.isAgg3 rfl) (part_one Tryz.isAgg3 rfl) (eqIn_int Tryz.underlying3) (eqFields_cons (by decide) (part_one Tryz.isAgg4 rfl) (part_one Tryz.isAgg4 rfl) (eqIn_bool Tryz.underlying4) (eqFields_cons (by decide) (part_one Tryz.isAgg3 rfl) (part_one Tryz.isAgg3 rfl) (eqIn_int Tryz.underlying3) (eqFields_cons (by decide) (part_one Tryz.isAgg3 rfl) (part_one Tryz.isAgg3 rfl) (eqIn_int Tryz.underlying3) (fun _ => rfl)))))))) h hx hy

end Go.Proofs.YtpocodofhkaddaaGreatDoor.W
