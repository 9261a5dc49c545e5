/- Structs held against each other. Written by our own program gen.py; Lean checks it. -/
import Derived.Test.YtllhdlnnlckceaaDoorPlain
import Derived.Test.YtllhdlnnlckceaaDoorProg
set_option linter.unusedVariables false
set_option maxRecDepth 100000
namespace Go.Proofs.YtllhdlnnlckceaaDoor.W
open Go Go.RowKit
theorem eql_struct23 {n : Nat} {o : Oper} {g : Frm} {S : Pred} {x y : Operand} {T' : TypeId} {a b : Span} (h : o.op = .binOp .eql 23 x y T') (hx : ev g x = some (.agg #[(.int .i64 a.low), (.int .i64 a.high)])) (hy : ev g y = some (.agg #[(.int .i64 b.low), (.int .i64 b.high)])) : OV Tryd.prog n o g S (.bool (a == b)) := by
  have e : (a == b) = (a.low == b.low && (a.high == b.high && true)) := by
    cases a; cases b; rw [Bool.eq_iff_iff]; simp
  rw [e]
  exact ov_eql_struct Tryd.eqGuardType23 Tryd.stoodInHeld23 Tryd.underlying23 (eqFields_cons (by decide) (part_one Tryd.isAgg3 rfl) (part_one Tryd.isAgg3 rfl) (eqIn_int Tryd.underlying3) (eqFields_cons (by decide) (part_one Tryd.isAgg3 rfl) (part_one Tryd.isAgg3 rfl) (eqIn_int Tryd.underlying3) (fun _ => rfl))) h hx hy

theorem neq_struct23 {n : Nat} {o : Oper} {g : Frm} {S : Pred} {x y : Operand} {T' : TypeId} {a b : Span} (h : o.op = .binOp .neq 23 x y T') (hx : ev g x = some (.agg #[(.int .i64 a.low), (.int .i64 a.high)])) (hy : ev g y = some (.agg #[(.int .i64 b.low), (.int .i64 b.high)])) : OV Tryd.prog n o g S (.bool (!(a == b))) := by
  have e : (a == b) = (a.low == b.low && (a.high == b.high && true)) := by
    cases a; cases b; rw [Bool.eq_iff_iff]; simp
  rw [e]
  exact ov_neq_struct Tryd.eqGuardType23 Tryd.stoodInHeld23 Tryd.underlying23 (eqFields_cons (by decide) (part_one Tryd.isAgg3 rfl) (part_one Tryd.isAgg3 rfl) (eqIn_int Tryd.underlying3) (eqFields_cons (by decide) (part_one Tryd.isAgg3 rfl) (part_one Tryd.isAgg3 rfl) (eqIn_int Tryd.underlying3) (fun _ => rfl))) h hx hy

end Go.Proofs.YtllhdlnnlckceaaDoor.W
