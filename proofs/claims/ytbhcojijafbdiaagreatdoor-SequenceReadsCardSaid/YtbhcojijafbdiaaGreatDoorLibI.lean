/- Our own calculus, ninth part: slices against nil. A general text: it names no program. -/
import Derived.Test.YtbhcojijafbdiaaGreatDoorLibH
import Derived.Lib.SliceRun
set_option linter.unusedVariables false
set_option linter.unusedSimpArgs false
namespace Go.Proofs.YtbhcojijafbdiaaGreatDoor.W
open Go Go.RowKit
section
variable {P : Program} {n : Nat} {o : Oper} {g : Frm} {S : Pred} {w0 : World} {ms : List Ent} {H0 H : Heap}
theorem eqGuard_slice {op : BinOp} {t : TypeId} {x y : Operand} {a b : Option Addr} {l c l' c' : Nat} : eqGuard op t x y (.slice a l c) (.slice b l' c') = pure () := by
  cases op <;> rfl
theorem ov_eql_nilS {T E T' : TypeId} {x y : Operand} {a : Option Addr} {l c : Nat} (hT : P.underlying T = some (.slice E)) (h : o.op = .binOp .eql T x y T') (hx : ev g x = some (.slice a l c)) (hy : ev g y = some (.slice none 0 0)) : OV P n o g S (.bool a.isNone) := fun a' w f _ => by
  simp only [execOp, h, f.eval hx, f.eval hy, Sem.run_bind, eqGuard_slice, Sem.run_pure, Result.andThen_ok, Lib.run_eql_slice_nil w T E a l c 0 0 hT]
end
section
variable {w w0 : World} {ms : List Ent} {H0 H : Heap} {T : TypeId} {sz m cap b : Nat} {ao : Option Addr} {xs cur : List Value}
end
section
variable {P : Program} {n : Nat} {o : Oper} {g : Frm} {w0 : World} {ms : List Ent} {H0 H : Heap}
end
end Go.Proofs.YtbhcojijafbdiaaGreatDoor.W
