/- Structs held against each other. Written by our own program gen.py; Lean checks it. -/
import Derived.Test.YtpigfknmlmeihaaDoorPlain
import Derived.Test.YtpigfknmlmeihaaDoorProg
set_option linter.unusedVariables false
set_option maxRecDepth 100000
set_option maxHeartbeats 4000000
namespace Go.Proofs.YtpigfknmlmeihaaDoor.W
open Go Go.RowKit
theorem neq_struct79 {n : Nat} {o : Oper} {g : Frm} {S : Pred} {x y : Operand} {T' : TypeId} {a b : Item} (h : o.op = .binOp .neq 79 x y T') (hx : ev g x = some (.agg #[(mkS a.name), (.int .i64 a.life), (.int .i64 a.used), (.int .i64 a.faults), (.bool a.faulty), (.int .i64 a.since), (.int .i64 a.cycles)])) (hy : ev g y = some (.agg #[(mkS b.name), (.int .i64 b.life), (.int .i64 b.used), (.int .i64 b.faults), (.bool b.faulty), (.int .i64 b.since), (.int .i64 b.cycles)])) : OV Tryd.prog n o g S (.bool (!(a == b))) := by
  have e : (a == b) = (a.name == b.name && (a.life == b.life && (a.used == b.used && (a.faults == b.faults && (a.faulty == b.faulty && (a.since == b.since && (a.cycles == b.cycles && true))))))) := by
    cases a; cases b; rw [Bool.eq_iff_iff]; simp
  rw [e]
  exact ov_neq_struct Tryd.eqGuardType79 Tryd.stoodInHeld79 Tryd.underlying79 (eqFields_cons (by decide) (part_one Tryd.isAgg9 rfl) (part_one Tryd.isAgg9 rfl) (eqIn_str Tryd.underlying9) (eqFields_cons (by decide) (part_one Tryd.isAgg3 rfl) (part_one Tryd.isAgg3 rfl) (eqIn_int Tryd.underlying3) (eqFields_cons (by decide) (part_one Tryd.isAgg3 rfl) (part_one Tryd.isAgg3 rfl) (eqIn_int Tryd.underlying3) (eqFields_cons (by decide) (part_one Tryd.isAgg3 rfl) (part_one Tryd.isAgg3 rfl) (eqIn_int Tryd.underlying3) (eqFields_cons (by decide) (part_one Tryd.isAgg4 rfl) (part_one Tryd.isAgg4 rfl) (eqIn_bool Tryd.underlying4) (eqFields_cons (by decide) (part_one Tryd.isAgg3 rfl) (part_one Tryd.isAgg3 rfl) (eqIn_int Tryd.underlying3) (eqFields_cons (by decide) (part_one Tryd.isAgg3 rfl) (part_one Tryd.isAgg3 rfl) (eqIn_int Tryd.underlying3) (fun _ => rfl)))))))) h hx hy

theorem neq_struct80 {n : Nat} {o : Oper} {g : Frm} {S : Pred} {x y : Operand} {T' : TypeId} {a b : Item} (h : o.op = .binOp .neq 80 x y T') (hx : ev g x = some (.agg #[(mkS a.name), (.int .i64 a.life), (.int .i64 a.used), (.int .i64 a.faults), (.bool a.faulty), (.int .i64 a.since), (.int .i64 a.cycles)])) (hy : ev g y = some (.agg #[(mkS b.name), (.int .i64 b.life), (.int .i64 b.used), (.int .i64 b.faults), (.bool b.faulty), (.int .i64 b.since), (.int .i64 b.cycles)])) : OV Tryd.prog n o g S (.bool (!(a == b))) := by
  have e : (a == b) = (a.name == b.name && (a.life == b.life && (a.used == b.used && (a.faults == b.faults && (a.faulty == b.faulty && (a.since == b.since && (a.cycles == b.cycles && true))))))) := by
    cases a; cases b; rw [Bool.eq_iff_iff]; simp
  rw [e]
  exact ov_neq_struct Tryd.eqGuardType80 Tryd.stoodInHeld80 Tryd.underlying80 (eqFields_cons (by decide) (part_one Tryd.isAgg9 rfl) (part_one Tryd.isAgg9 rfl) (eqIn_str Tryd.underlying9) (eqFields_cons (by decide) (part_one Tryd.isAgg3 rfl) (part_one Tryd.isAgg3 rfl) (eqIn_int Tryd.underlying3) (eqFields_cons (by decide) (part_one Tryd.isAgg3 rfl) (part_one Tryd.isAgg3 rfl) (eqIn_int Tryd.underlying3) (eqFields_cons (by decide) (part_one Tryd.isAgg3 rfl) (part_one Tryd.isAgg3 rfl) (eqIn_int Tryd.underlying3) (eqFields_cons (by decide) (part_one Tryd.isAgg4 rfl) (part_one Tryd.isAgg4 rfl) (eqIn_bool Tryd.underlying4) (eqFields_cons (by decide) (part_one Tryd.isAgg3 rfl) (part_one Tryd.isAgg3 rfl) (eqIn_int Tryd.underlying3) (eqFields_cons (by decide) (part_one Tryd.isAgg3 rfl) (part_one Tryd.isAgg3 rfl) (eqIn_int Tryd.underlying3) (fun _ => rfl)))))))) h hx hy

end Go.Proofs.YtpigfknmlmeihaaDoor.W
