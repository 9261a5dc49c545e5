/- Structs held against each other. Written by our own program gen.py; Lean checks it. -/
import Derived.Test.YtpigfknmlmeihaaGreatDoorPlain
import Derived.Test.YtpigfknmlmeihaaGreatDoorProg
set_option linter.unusedVariables false
set_option maxRecDepth 100000
set_option maxHeartbeats 4000000
namespace Go.Proofs.YtpigfknmlmeihaaGreatDoor.W
open Go Go.RowKit
theorem eql_struct23 {n : Nat} {o : Oper} {g : Frm} {S : Pred} {x y : Operand} {T' : TypeId} {a b : Entry} (h : o.op = .binOp .eql 23 x y T') (hx : ev g x = some (.agg #[(.int .i64 a.kind), (mkS a.name), (.int .i64 a.count), (.int .i64 a.strokes)])) (hy : ev g y = some (.agg #[(.int .i64 b.kind), (mkS b.name), (.int .i64 b.count), (.int .i64 b.strokes)])) : OV Tryz.prog n o g S (.bool (a == b)) := by
  have e : (a == b) = (a.kind == b.kind && (a.name == b.name && (a.count == b.count && (a.strokes == b.strokes && true)))) := by
    cases a; cases b; rw [Bool.eq_iff_iff]; simp
  rw [e]
  exact ov_eql_struct Tryz.eqGuardType23 Tryz.stoodInHeld23 Tryz.underlying23 (eqFields_cons (by decide) (part_one Tryz.isAgg3 rfl) (part_one Tryz.isAgg3 rfl) (eqIn_int Tryz.underlying3) (eqFields_cons (by decide) (part_one Tryz.isAgg9 rfl) (part_one Tryz.isAgg9 rfl) (eqIn_str Tryz.underlying9) (eqFields_cons (by decide) (part_one Tryz.isAgg3 rfl) (part_one Tryz.isAgg3 rfl) (eqIn_int Tryz.underlying3) (eqFields_cons (by decide) (part_one Tryz.isAgg3 rfl) (part_one Tryz.isAgg3 rfl) (eqIn_int Tryz.underlying3) (fun _ => rfl))))) h hx hy

theorem eql_struct30 {n : Nat} {o : Oper} {g : Frm} {S : Pred} {x y : Operand} {T' : TypeId} {a b : Entry} (h : o.op = .binOp .eql 30 x y T') (hx : ev g x = some (.agg #[(.int .i64 a.kind), (mkS a.name), (.int .i64 a.count), (.int .i64 a.strokes)])) (hy : ev g y = some (.agg #[(.int .i64 b.kind), (mkS b.name), (.int .i64 b.count), (.int .i64 b.strokes)])) : OV Tryz.prog n o g S (.bool (a == b)) := by
  have e : (a == b) = (a.kind == b.kind && (a.name == b.name && (a.count == b.count && (a.strokes == b.strokes && true)))) := by
    cases a; cases b; rw [Bool.eq_iff_iff]; simp
  rw [e]
  exact ov_eql_struct Tryz.eqGuardType30 Tryz.stoodInHeld30 Tryz.underlying30 (eqFields_cons (by decide) (part_one Tryz.isAgg3 rfl) (part_one Tryz.isAgg3 rfl) (eqIn_int Tryz.underlying3) (eqFields_cons (by decide) (part_one Tryz.isAgg9 rfl) (part_one Tryz.isAgg9 rfl) (eqIn_str Tryz.underlying9) (eqFields_cons (by decide) (part_one Tryz.isAgg3 rfl) (part_one Tryz.isAgg3 rfl) (eqIn_int Tryz.underlying3) (eqFields_cons (by decide) (part_one Tryz.isAgg3 rfl) (part_one Tryz.isAgg3 rfl) (eqIn_int Tryz.underlying3) (fun _ => rfl))))) h hx hy

theorem neq_struct73 {n : Nat} {o : Oper} {g : Frm} {S : Pred} {x y : Operand} {T' : TypeId} {a b : Item} (h : o.op = .binOp .neq 73 x y T') (hx : ev g x = some (.agg #[(mkS a.name), (.int .i64 a.life), (.int .i64 a.used), (.int .i64 a.faults), (.bool a.faulty), (.int .i64 a.since), (.int .i64 a.cycles)])) (hy : ev g y = some (.agg #[(mkS b.name), (.int .i64 b.life), (.int .i64 b.used), (.int .i64 b.faults), (.bool b.faulty), (.int .i64 b.since), (.int .i64 b.cycles)])) : OV Tryz.prog n o g S (.bool (!(a == b))) := by
  have e : (a == b) = (a.name == b.name && (a.life == b.life && (a.used == b.used && (a.faults == b.faults && (a.faulty == b.faulty && (a.since == b.since && (a.cycles == b.cycles && true))))))) := by
    cases a; cases b; rw [Bool.eq_iff_iff]; simp
  rw [e]
  exact ov_neq_struct Tryz.eqGuardType73 Tryz.stoodInHeld73 Tryz.underlying73 (eqFields_cons (by decide) (part_one Tryz.isAgg9 rfl) (part_one Tryz.isAgg9 rfl) (eqIn_str Tryz.underlying9) (eqFields_cons (by decide) (part_one Tryz.isAgg3 rfl) (part_one Tryz.isAgg3 rfl) (eqIn_int Tryz.underlying3) (eqFields_cons (by decide) (part_one Tryz.isAgg3 rfl) (part_one Tryz.isAgg3 rfl) (eqIn_int Tryz.underlying3) (eqFields_cons (by decide) (part_one Tryz.isAgg3 rfl) (part_one Tryz.isAgg3 rfl) (eqIn_int Tryz.underlying3) (eqFields_cons (by decide) (part_one Tryz.isAgg4 rfl) (part_one Tryz.isAgg4 rfl) (eqIn_bool Tryz.underlying4) (eqFields_cons (by decide) (part_one Tryz.isAgg3 rfl) (part_one Tryz.isAgg3 rfl) (eqIn_int Tryz.underlying3) (eqFields_cons (by decide) (part_one Tryz.isAgg3 rfl) (part_one Tryz.isAgg3 rfl) (eqIn_int Tryz.underlying3) (fun _ => rfl)))))))) h hx hy

theorem neq_struct100 {n : Nat} {o : Oper} {g : Frm} {S : Pred} {x y : Operand} {T' : TypeId} {a b : Item} (h : o.op = .binOp .neq 100 x y T') (hx : ev g x = some (.agg #[(mkS a.name), (.int .i64 a.life), (.int .i64 a.used), (.int .i64 a.faults), (.bool a.faulty), (.int .i64 a.since), (.int .i64 a.cycles)])) (hy : ev g y = some (.agg #[(mkS b.name), (.int .i64 b.life), (.int .i64 b.used), (.int .i64 b.faults), (.bool b.faulty), (.int .i64 b.since), (.int .i64 b.cycles)])) : OV Tryz.prog n o g S (.bool (!(a == b))) := by
  have e : (a == b) = (a.name == b.name && (a.life == b.life && (a.used == b.used && (a.faults == b.faults && (a.faulty == b.faulty && (a.since == b.since && (a.cycles == b.cycles && true))))))) := by
    cases a; cases b; rw [Bool.eq_iff_iff]; simp
  rw [e]
  exact ov_neq_struct Tryz.eqGuardType100 Tryz.stoodInHeld100 Tryz.underlying100 (eqFields_cons (by decide) (part_one Tryz.isAgg9 rfl) (part_one Tryz.isAgg9 rfl) (eqIn_str Tryz.underlying9) (eqFields_cons (by decide) (part_one Tryz.isAgg3 rfl) (part_one Tryz.isAgg3 rfl) (eqIn_int Tryz.underlying3) (eqFields_cons (by decide) (part_one Tryz.isAgg3 rfl) (part_one Tryz.isAgg3 rfl) (eqIn_int Tryz.underlying3) (eqFields_cons (by decide) (part_one Tryz.isAgg3 rfl) (part_one Tryz.isAgg3 rfl) (eqIn_int Tryz.underlying3) (eqFields_cons (by decide) (part_one Tryz.isAgg4 rfl) (part_one Tryz.isAgg4 rfl) (eqIn_bool Tryz.underlying4) (eqFields_cons (by decide) (part_one Tryz.isAgg3 rfl) (part_one Tryz.isAgg3 rfl) (eqIn_int Tryz.underlying3) (eqFields_cons (by decide) (part_one Tryz.isAgg3 rfl) (part_one Tryz.isAgg3 rfl) (eqIn_int Tryz.underlying3) (fun _ => rfl)))))))) h hx hy

end Go.Proofs.YtpigfknmlmeihaaGreatDoor.W
