/- Our own calculus, third part: a lemma an operation. A general text: it names no program. -/
import Derived.Test.YtcgmhlakihjbkaaGreatDoorLibB
namespace Go.Proofs.YtcgmhlakihjbkaaGreatDoor.W
open Go Go.RowKit
section
variable {P : Program} {n : Nat} {o : Oper} {g : Frm} {S : Pred} {K : Value → Pred → Prop}

theorem ov_move {x : Operand} {v : Value} (h : o.op = .move x) (hx : ev g x = some v) : OV P n o g S v := fun a w f _ => by simp [execOp, h, f.eval hx]
theorem ov_assign {x : Operand} {v : Value} (h : o.op = .assign x) (hx : ev g x = some v) : OV P n o g S v := fun a w f _ => by simp [execOp, h, f.eval hx]
theorem ov_pick_true {c x y : Operand} {u : Value} (h : o.op = .pick c x y) (hc : ev g c = some (.bool true)) (hx : ev g x = some u) : OV P n o g S u := fun a w f _ => by
  simp [execOp, h, f.eval hc, f.eval hx, asBool]
theorem ov_pick_false {c x y : Operand} {v : Value} (h : o.op = .pick c x y) (hc : ev g c = some (.bool false)) (hy : ev g y = some v) : OV P n o g S v := fun a w f _ => by
  simp [execOp, h, f.eval hc, f.eval hy, asBool]

theorem eqGuard_int {op : BinOp} {t : TypeId} {x y : Operand} {k k' : IntKind} {a b : Int} : eqGuard op t x y (.int k a) (.int k' b) = pure () := by
  unfold eqGuard; split <;> rfl
theorem eqGuard_bool {op : BinOp} {t : TypeId} {x y : Operand} {a b : Bool} : eqGuard op t x y (.bool a) (.bool b) = pure () := by
  unfold eqGuard; split <;> rfl
theorem eqGuard_string {op : BinOp} {t : TypeId} {x y : Operand} {a b : ByteArray} : eqGuard op t x y (.string a) (.string b) = pure () := by
  unfold eqGuard; split <;> rfl
theorem ov_binOp {op : BinOp} {T T' : TypeId} {x y : Operand} {u v r : Value} (h : o.op = .binOp op T x y T') (hx : ev g x = some u) (hy : ev g y = some v)
    (hg : eqGuard op T x y u v = pure ()) (hr : ∀ w, (binOp op T u v).run P w = .ok r w) : OV P n o g S r := fun a w f _ => by
  simp [execOp, h, f.eval hx, f.eval hy, hg, hr]
section
variable {T T' : TypeId} {x y : Operand} {k : IntKind} {i j : Int}
theorem ov_add (h : o.op = .binOp .add T x y T') (hx : ev g x = some (.int k i)) (hy : ev g y = some (.int k j)) : OV P n o g S (.int k (k.wrap (i + j))) :=
  ov_binOp h hx hy eqGuard_int fun w => by simp [binOp, Op.intArith]
theorem ov_sub (h : o.op = .binOp .sub T x y T') (hx : ev g x = some (.int k i)) (hy : ev g y = some (.int k j)) : OV P n o g S (.int k (k.wrap (i - j))) :=
  ov_binOp h hx hy eqGuard_int fun w => by simp [binOp, Op.intArith]
theorem ov_mul (h : o.op = .binOp .mul T x y T') (hx : ev g x = some (.int k i)) (hy : ev g y = some (.int k j)) : OV P n o g S (.int k (k.wrap (i * j))) :=
  ov_binOp h hx hy eqGuard_int fun w => by simp [binOp, Op.intArith]
theorem ov_quo (h : o.op = .binOp .quo T x y T') (hx : ev g x = some (.int k i)) (hy : ev g y = some (.int k j)) (h0 : ¬ j = 0) : OV P n o g S (.int k (k.wrap (i.tdiv j))) :=
  ov_binOp h hx hy eqGuard_int fun w => by simp [binOp, Op.intDiv, h0]
theorem ov_rem (h : o.op = .binOp .rem T x y T') (hx : ev g x = some (.int k i)) (hy : ev g y = some (.int k j)) (h0 : ¬ j = 0) : OV P n o g S (.int k (i.tmod j)) :=
  ov_binOp h hx hy eqGuard_int fun w => by simp [binOp, Op.intDiv, h0]
theorem ov_eql (h : o.op = .binOp .eql T x y T') (hx : ev g x = some (.int k i)) (hy : ev g y = some (.int k j)) : OV P n o g S (.bool (i == j)) :=
  ov_binOp h hx hy eqGuard_int fun w => by simp [binOp, Op.intCmp]
theorem ov_neq (h : o.op = .binOp .neq T x y T') (hx : ev g x = some (.int k i)) (hy : ev g y = some (.int k j)) : OV P n o g S (.bool (i != j)) :=
  ov_binOp h hx hy eqGuard_int fun w => by simp [binOp, Op.intCmp]
theorem ov_lss (h : o.op = .binOp .lss T x y T') (hx : ev g x = some (.int k i)) (hy : ev g y = some (.int k j)) : OV P n o g S (.bool (decide (i < j))) :=
  ov_binOp h hx hy eqGuard_int fun w => by simp [binOp, Op.intCmp]
theorem ov_leq (h : o.op = .binOp .leq T x y T') (hx : ev g x = some (.int k i)) (hy : ev g y = some (.int k j)) : OV P n o g S (.bool (decide (i ≤ j))) :=
  ov_binOp h hx hy eqGuard_int fun w => by simp [binOp, Op.intCmp]
theorem ov_gtr (h : o.op = .binOp .gtr T x y T') (hx : ev g x = some (.int k i)) (hy : ev g y = some (.int k j)) : OV P n o g S (.bool (decide (i > j))) :=
  ov_binOp h hx hy eqGuard_int fun w => by simp [binOp, Op.intCmp]
theorem ov_geq (h : o.op = .binOp .geq T x y T') (hx : ev g x = some (.int k i)) (hy : ev g y = some (.int k j)) : OV P n o g S (.bool (decide (i ≥ j))) :=
  ov_binOp h hx hy eqGuard_int fun w => by simp [binOp, Op.intCmp]
variable {s t : List UInt8}
theorem ov_seql (h : o.op = .binOp .eql T x y T') (hx : ev g x = some (mkS s)) (hy : ev g y = some (mkS t)) : OV P n o g S (.bool (s == t)) :=
  ov_binOp h hx hy eqGuard_string fun w => by simp [mkS, binOp, Op.stringOp]
theorem ov_sneq (h : o.op = .binOp .neq T x y T') (hx : ev g x = some (mkS s)) (hy : ev g y = some (mkS t)) : OV P n o g S (.bool (!(s == t))) :=
  ov_binOp h hx hy eqGuard_string fun w => by simp [mkS, binOp, Op.stringOp]
theorem ov_sleq (h : o.op = .binOp .leq T x y T') (hx : ev g x = some (mkS s)) (hy : ev g y = some (mkS t)) : OV P n o g S (.bool (Op.bytesLess s t || s == t)) :=
  ov_binOp h hx hy eqGuard_string fun w => by simp [mkS, binOp, Op.stringOp]
/-- the greatest length of a text -/
def maxS : Nat := 9223372036854775807
theorem ov_sadd (h : o.op = .binOp .add T x y T') (hx : ev g x = some (mkS s)) (hy : ev g y = some (mkS t)) (hl : s.length + t.length ≤ maxS) : OV P n o g S (mkS (s ++ t)) :=
  ov_binOp h hx hy eqGuard_string fun w => by
    have e1 : (ByteArray.mk s.toArray).size = s.length := by simp [ByteArray.size]
    have e2 : (ByteArray.mk t.toArray).size = t.length := by simp [ByteArray.size]
    have e3 : ByteArray.mk s.toArray ++ ByteArray.mk t.toArray = ByteArray.mk (s ++ t).toArray := by
      apply ByteArray.ext
      simp [ByteArray.data_append]
    have e4 : IntKind.i64.max = 9223372036854775807 := by decide
    simp only [mkS, binOp, Op.stringOp, e1, e2, e3, e4]
    rw [if_neg (by unfold maxS at hl; omega)]
    rfl
theorem ov_beql {b c : Bool} (hT : P.underlying T = some .bool) (h : o.op = .binOp .eql T x y T') (hx : ev g x = some (.bool b)) (hy : ev g y = some (.bool c)) : OV P n o g S (.bool (b == c)) :=
  ov_binOp h hx hy eqGuard_bool fun w => by
    show ((Op.equal T (.bool b) (.bool c) >>= fun r => pure (Value.bool r)) : Sem Value).run P w = _
    rw [Sem.run_bind, run_equal_bool w T b c hT]; rfl
theorem ov_bneq {b c : Bool} (hT : P.underlying T = some .bool) (h : o.op = .binOp .neq T x y T') (hx : ev g x = some (.bool b)) (hy : ev g y = some (.bool c)) : OV P n o g S (.bool (!(b == c))) :=
  ov_binOp h hx hy eqGuard_bool fun w => by
    show ((Op.equal T (.bool b) (.bool c) >>= fun r => pure (Value.bool (!r))) : Sem Value).run P w = _
    rw [Sem.run_bind, run_equal_bool w T b c hT]; rfl
end
theorem ov_not {T : TypeId} {x : Operand} {b : Bool} (h : o.op = .unOp .not T x) (hx : ev g x = some (.bool b)) : OV P n o g S (.bool (!b)) := fun a w f _ => by
  simp [execOp, h, f.eval hx, Op.unary]
theorem ov_neg {T : TypeId} {x : Operand} {k : IntKind} {i : Int} (h : o.op = .unOp .neg T x) (hx : ev g x = some (.int k i)) : OV P n o g S (.int k (k.wrap (0 - i))) := fun a w f _ => by
  simp [execOp, h, f.eval hx, Op.unary, Op.intArith]
theorem ov_convert_int {A B : TypeId} {x : Operand} {k k' : IntKind} {i : Int} {d : TypeDesc} (hA : P.underlying A = some d) (hB : P.underlying B = some (.int k')) (h : o.op = .convert A B x) (hx : ev g x = some (.int k i)) :
    OV P n o g S (.int k' (k'.wrap i)) := fun a w f _ => by
  simp [execOp, h, f.eval hx, convert, run_underlying hA, run_underlying hB, Conv.intToInt]
theorem ov_len_string {T : TypeId} {x : Operand} {s : List UInt8} (hT : P.underlying T = some .string) (h : o.op = .call { callee := .builtin .len, args := #[x], argTypes := #[T] }) (hx : ev g x = some (mkS s)) :
    OV P n o g S (.int .i64 (s.length : Int)) := fun a w f _ => by
  have e1 : (ByteArray.mk s.toArray).size = s.length := by simp [ByteArray.size]
  simp [execOp, h, resolve, invoke, builtin, f.eval hx, Builtin.len_, run_underlying hT, mkS, goInt, e1]
theorem ov_len_slice {T E : TypeId} {x : Operand} {ao : Option Addr} {m c : Nat} (hT : P.underlying T = some (.slice E)) (h : o.op = .call { callee := .builtin .len, args := #[x], argTypes := #[T] }) (hx : ev g x = some (.slice ao m c)) :
    OV P n o g S (.int .i64 (m : Int)) := fun a w f _ => by
  simp [execOp, h, resolve, invoke, builtin, f.eval hx, Builtin.len_, run_underlying hT, goInt]
theorem ov_max {T U : TypeId} {x y : Operand} {i j : Int} {k : IntKind} (h : o.op = .call { callee := .builtin .max, args := #[x, y], argTypes := #[T, U] }) (hx : ev g x = some (.int k i)) (hy : ev g y = some (.int k j)) :
    OV P n o g S (.int k (if j > i then j else i)) := fun a w f _ => by
  simp [execOp, h, resolve, invoke, builtin, f.eval hx, f.eval hy, Builtin.max_, Builtin.max2]
theorem ov_extract {x : Operand} {i : Nat} {vs : Array Value} {v : Value} (h : o.op = .extract x i) (hx : ev g x = some (.tuple vs)) (hv : vs[i]? = some v) : OV P n o g S v := fun a w f _ => by
  simp [execOp, h, f.eval hx, Instr.extract, hv]
theorem ov_makeFunc {fn : Fn} {first captured : Array Operand} {vs us : Array Value} (h : o.op = .makeFunc fn first captured) (hf : ∀ a, Fits n g a → first.map a.eval = vs) (hc : ∀ a, Fits n g a → captured.map a.eval = us) : OV P n o g S (.func fn vs us) := fun a w f _ => by
  simp [execOp, h, hf a f, hc a f, Instr.makeFunc]

/-! ### texts -/
/-- the byte at a place, none outside -/
def byteAt (s : List UInt8) (i : Int) : Option UInt8 := if 0 ≤ i then s[i.toNat]? else none
theorem ov_index_string {T : TypeId} {x y : Operand} {s : List UInt8} {k : IntKind} {i : Int} {b : UInt8} (hT : P.underlying T = some .string) (h : o.op = .index T x y) (hx : ev g x = some (mkS s)) (hy : ev g y = some (.int k i)) (hb : byteAt s i = some b) :
    OV P n o g S (.int .u8 (b.toNat : Int)) := fun a w f _ => by
  unfold byteAt at hb
  split at hb
  · rename_i h0
    have e1 : (ByteArray.mk s.toArray)[i.toNat]? = some b := by
      obtain ⟨hlt, he⟩ := List.getElem?_eq_some_iff.1 hb
      have hlt' : i.toNat < (ByteArray.mk s.toArray).size := by simpa [ByteArray.size] using hlt
      rw [ByteArray.getElem?_lt' _ _ hlt']
      congr 1
    simp [execOp, h, f.eval hx, f.eval hy, mkS, Instr.index, asIntOf, run_underlying hT, h0, e1]
  · cases hb
/-- a part of a text, none outside -/
def cut (s : List UInt8) (i j : Int) : Option (List UInt8) := if 0 ≤ i ∧ i ≤ j ∧ j ≤ s.length then some ((s.drop i.toNat).take (j.toNat - i.toNat)) else none
theorem cut_some {s r : List UInt8} {i j : Int} (h : cut s i j = some r) : 0 ≤ i ∧ i ≤ j ∧ j ≤ s.length ∧ r = (s.drop i.toNat).take (j.toNat - i.toNat) := by
  unfold cut at h
  split at h
  · rename_i h0; cases h; exact ⟨h0.1, h0.2.1, h0.2.2, rfl⟩
  · cases h
theorem extract_mkS (s : List UInt8) (i j : Nat) : Value.string ((ByteArray.mk s.toArray).extract i j) = mkS ((s.drop i).take (j - i)) := by
  rw [ByteArray.extract_mk]; rfl
theorem ov_slice_string_from {T : TypeId} {x y : Operand} {s r : List UInt8} {k : IntKind} {i : Int} (hT : P.underlying T = some .string) (h : o.op = .slice T x (some y) none none) (hx : ev g x = some (mkS s))
    (hy : ev g y = some (.int k i)) (hr : cut s i s.length = some r) : OV P n o g S (mkS r) := fun a w f _ => by
  obtain ⟨h1, h2, h3, rfl⟩ := cut_some hr
  have e1 : (ByteArray.mk s.toArray).size = s.length := by simp [ByteArray.size]
  have e2 : ((s.length : Int).toNat) = s.length := by omega
  rw [e2, ← extract_mkS]
  simp [execOp, h, f.eval hx, f.eval hy, mkS, Instr.sliceAt, run_underlying hT, Instr.slice, Instr.sliceBounds, Instr.sliceBound, asIntOf, e1, h1, h2]
theorem ov_slice_string_to {T : TypeId} {x z : Operand} {s r : List UInt8} {k : IntKind} {j : Int} (hT : P.underlying T = some .string) (h : o.op = .slice T x none (some z) none) (hx : ev g x = some (mkS s))
    (hz : ev g z = some (.int k j)) (hr : cut s 0 j = some r) : OV P n o g S (mkS r) := fun a w f _ => by
  obtain ⟨h1, h2, h3, rfl⟩ := cut_some hr
  have e1 : (ByteArray.mk s.toArray).size = s.length := by simp [ByteArray.size]
  have e2 : (0 : Int).toNat = 0 := rfl
  rw [e2, ← extract_mkS]
  simp [execOp, h, f.eval hx, f.eval hz, mkS, Instr.sliceAt, run_underlying hT, Instr.slice, Instr.sliceBounds, Instr.sliceBound, asIntOf, e1, h3, show 0 ≤ j from by omega]

/-! ### addresses -/
def pB (b k : Nat) : Value := .pointer (some ⟨b, k, none⟩)
def pE (ao : Option Addr) (k : Nat) : Value := .pointer (some ((ao.getD ⟨0, 0, none⟩).add k))
theorem addr_add (b k j : Nat) : (⟨b, k, none⟩ : Addr).add j = ⟨b, k + j, none⟩ := by unfold Addr.add; split <;> simp_all
theorem add_add (a : Addr) (k j : Nat) : (a.add k).add j = a.add (k + j) := by
  unfold Addr.add
  by_cases h1 : k = 0
  · subst h1; simp
  · by_cases h2 : j = 0
    · subst h2; simp
    · rw [if_neg h1, if_neg h2, if_neg (by omega)]
      simp [Nat.add_assoc]
theorem ov_fieldAddr {T F : TypeId} {x : Operand} {i b k s off : Nat} {fs : Array Field} {fd : Field} (hT : P.underlying T = some (.struct fs)) (hf : fs[i]? = some fd) (ho : fd.offset = off) (hF : fd.type = F) (hs : ∀ w, (sizeOf F).run P w = .ok (s + 1) w) (h : o.op = .fieldAddr T x i) (hx : ev g x = some (pB b k)) :
    OV P n o g S (pB b (k + off)) := fun a w f _ => by
  subst hF
  subst ho
  simp [execOp, h, f.eval hx, pB, Instr.fieldAt, run_underlying hT, hf, Instr.sureAddr, fieldPlace, hs, addr_add]
theorem ov_fieldAddrE {T F : TypeId} {x : Operand} {i k s off : Nat} {ao : Option Addr} {fs : Array Field} {fd : Field} (hT : P.underlying T = some (.struct fs)) (hf : fs[i]? = some fd) (ho : fd.offset = off) (hF : fd.type = F) (hs : ∀ w, (sizeOf F).run P w = .ok (s + 1) w) (h : o.op = .fieldAddr T x i) (hx : ev g x = some (pE ao k)) :
    OV P n o g S (pE ao (k + off)) := fun a w f _ => by
  subst hF
  subst ho
  simp [execOp, h, f.eval hx, pE, Instr.fieldAt, run_underlying hT, hf, Instr.sureAddr, fieldPlace, hs, add_add]
theorem ov_nilCheck {x : Operand} {ad : Addr} (h : o.op = .nilCheck x) (hx : ev g x = some (.pointer (some ad))) : OV P n o g S (.pointer (some ad)) := fun a w f _ => by
  simp [execOp, h, f.eval hx]
theorem ov_nilCheckB {x : Operand} {b k : Nat} (h : o.op = .nilCheck x) (hx : ev g x = some (pB b k)) : OV P n o g S (pB b k) := ov_nilCheck h hx
theorem ov_nilCheckE {x : Operand} {ao : Option Addr} {k : Nat} (h : o.op = .nilCheck x) (hx : ev g x = some (pE ao k)) : OV P n o g S (pE ao k) := ov_nilCheck h hx
/-- an element of a variable array in a box -/
theorem ov_indexAddr_arr {T E : TypeId} {x y : Operand} {b k m s : Nat} {kk : IntKind} {i : Int} (hT : P.underlying T = some (.array m E)) (hs : ∀ w, (sizeOf E).run P w = .ok s w) (h : o.op = .indexAddr T x y) (hx : ev g x = some (pB b k)) (hy : ev g y = some (.int kk i)) (h0 : 0 ≤ i) (h1 : i < m) :
    OV P n o g S (pB b (k + i.toNat * s)) := fun a w f _ => by
  simp [execOp, h, f.eval hx, f.eval hy, pB, Instr.indexAt, asIntOf, run_underlying hT, Instr.sureAddr, h0, h1, hs, addr_add]
theorem ov_indexAddr {T E : TypeId} {x y : Operand} {m c s : Nat} {ao : Option Addr} {kk : IntKind} {i : Int} (hT : P.underlying T = some (.slice E)) (hs : ∀ w, (sizeOf E).run P w = .ok s w) (h : o.op = .indexAddr T x y) (hx : ev g x = some (.slice ao m c)) (hy : ev g y = some (.int kk i)) (h0 : 0 ≤ i) (h1 : i < m) (ha : ∃ a, ao = some a) :
    OV P n o g S (pE ao (i.toNat * s)) := fun a w f _ => by
  obtain ⟨ad, rfl⟩ := ha
  simp [execOp, h, f.eval hx, f.eval hy, pE, Instr.indexAt, asIntOf, run_underlying hT, h0, h1, hs]
end
end Go.Proofs.YtcgmhlakihjbkaaGreatDoor.W
