/- Structs held against each other. Written by our own program gen.py; Lean checks it. -/
import Derived.Test.YtmfphbdafgmplaaDoorPlain
import Derived.Test.YtmfphbdafgmplaaDoorProg
set_option linter.unusedVariables false
set_option maxRecDepth 100000
set_option maxHeartbeats 4000000
namespace Go.Proofs.YtmfphbdafgmplaaDoor.W
open Go Go.RowKit
theorem eql_struct37 {n : Nat} {o : Oper} {g : Frm} {S : Pred} {x y : Operand} {T' : TypeId} {a b : Token} (h : o.op = .binOp .eql 37 x y T') (hx : ev g x = some (.agg #[(.int .i64 a.kind), (mkS a.text), (.int .i64 a.at_)])) (hy : ev g y = some (.agg #[(.int .i64 b.kind), (mkS b.text), (.int .i64 b.at_)])) : OV Tryd.prog n o g S (.bool (a == b)) := by
  have e : (a == b) = (a.kind == b.kind && (a.text == b.text && (a.at_ == b.at_ && true))) := by
    cases a; cases b; rw [Bool.eq_iff_iff]; simp
  rw [e]
  exact ov_eql_struct Tryd.eqGuardType37 Tryd.stoodInHeld37 Tryd.underlying37 (eqFields_cons (by decide) (part_one Tryd.isAgg3 rfl) (part_one Tryd.isAgg3 rfl) (eqIn_int Tryd.underlying3) (eqFields_cons (by decide) (part_one Tryd.isAgg9 rfl) (part_one Tryd.isAgg9 rfl) (eqIn_str Tryd.underlying9) (eqFields_cons (by decide) (part_one Tryd.isAgg3 rfl) (part_one Tryd.isAgg3 rfl) (eqIn_int Tryd.underlying3) (fun _ => rfl)))) h hx hy

theorem neq_struct37 {n : Nat} {o : Oper} {g : Frm} {S : Pred} {x y : Operand} {T' : TypeId} {a b : Token} (h : o.op = .binOp .neq 37 x y T') (hx : ev g x = some (.agg #[(.int .i64 a.kind), (mkS a.text), (.int .i64 a.at_)])) (hy : ev g y = some (.agg #[(.int .i64 b.kind), (mkS b.text), (.int .i64 b.at_)])) : OV Tryd.prog n o g S (.bool (!(a == b))) := by
  have e : (a == b) = (a.kind == b.kind && (a.text == b.text && (a.at_ == b.at_ && true))) := by
    cases a; cases b; rw [Bool.eq_iff_iff]; simp
  rw [e]
  exact ov_neq_struct Tryd.eqGuardType37 Tryd.stoodInHeld37 Tryd.underlying37 (eqFields_cons (by decide) (part_one Tryd.isAgg3 rfl) (part_one Tryd.isAgg3 rfl) (eqIn_int Tryd.underlying3) (eqFields_cons (by decide) (part_one Tryd.isAgg9 rfl) (part_one Tryd.isAgg9 rfl) (eqIn_str Tryd.underlying9) (eqFields_cons (by decide) (part_one Tryd.isAgg3 rfl) (part_one Tryd.isAgg3 rfl) (eqIn_int Tryd.underlying3) (fun _ => rfl)))) h hx hy

end Go.Proofs.YtmfphbdafgmplaaDoor.W
