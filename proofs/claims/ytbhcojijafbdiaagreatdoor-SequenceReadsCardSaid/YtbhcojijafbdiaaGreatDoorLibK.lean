/- Our own calculus, eleventh part: bytes in a row of the call's own, and what strings.Builder does. A general text: it names no program. -/
import Derived.Test.YtbhcojijafbdiaaGreatDoorLibJ
import Derived.Lib.AppendStr
import Derived.Lib.Builder
set_option linter.unusedVariables false
set_option linter.unusedSimpArgs false
namespace Go.Proofs.YtbhcojijafbdiaaGreatDoor.W
open Go Go.RowKit
/-- a byte, as a cell -/
def encByte : Enc UInt8 := Enc.flat 1 (fun b => [.int .u8 (b.toNat : Int)]) (fun _ => rfl)
theorem RL.bytes {H : Heap} : ∀ {l : List UInt8} {xs : List Value}, RL H encByte l xs → xs = Lib.byteCells l := by
  intro l
  induction l with
  | nil =>
    intro xs h
    exact List.eq_nil_of_length_eq_zero (by simpa using h.1)
  | cons b r ih =>
    intro xs h
    have h0 := h.2 0 b rfl
    have hs : encByte.size = 1 := rfl
    rw [hs] at h0
    cases xs with
    | nil => cases h0
    | cons x ys =>
      have e : [x] = [Value.int .u8 (b.toNat : Int)] := h0
      have hy : RL H encByte r ys := by
        have := h.drop 1
        rw [hs] at this
        simpa using this
      rw [ih hy]
      injection e with e1
      subst e1
      rfl
section
variable {P : Program} {n : Nat} {o : Oper} {g : Frm} {w0 : World} {ms : List Ent} {H0 H : Heap}
end
end Go.Proofs.YtbhcojijafbdiaaGreatDoor.W
