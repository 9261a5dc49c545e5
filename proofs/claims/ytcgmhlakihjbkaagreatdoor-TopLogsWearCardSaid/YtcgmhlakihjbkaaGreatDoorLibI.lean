/- Our own calculus, ninth part: slices against nil. A general text: it names no program. -/
import Derived.Test.YtcgmhlakihjbkaaGreatDoorLibH
import Derived.Lib.SliceRun
set_option linter.unusedVariables false
set_option linter.unusedSimpArgs false
namespace Go.Proofs.YtcgmhlakihjbkaaGreatDoor.W
open Go Go.RowKit
section
variable {P : Program} {n : Nat} {o : Oper} {g : Frm} {S : Pred} {w0 : World} {ms : List Ent} {H0 H : Heap}
theorem eqGuard_slice {op : BinOp} {t : TypeId} {x y : Operand} {a b : Option Addr} {l c l' c' : Nat} : eqGuard op t x y (.slice a l c) (.slice b l' c') = pure () := by
  cases op <;> rfl
theorem ov_eql_nilS {T E T' : TypeId} {x y : Operand} {a : Option Addr} {l c : Nat} (hT : P.underlying T = some (.slice E)) (h : o.op = .binOp .eql T x y T') (hx : ev g x = some (.slice a l c)) (hy : ev g y = some (.slice none 0 0)) : OV P n o g S (.bool a.isNone) := fun a' w f _ => by
  simp only [execOp, h, f.eval hx, f.eval hy, Sem.run_bind, eqGuard_slice, Sem.run_pure, Result.andThen_ok, Lib.run_eql_slice_nil w T E a l c 0 0 hT]
end
section
variable {w w0 : World} {ms : List Ent} {H0 H : Heap} {T : TypeId} {sz m cap b : Nat} {ao : Option Addr} {xs cur : List Value}
end
section
variable {P : Program} {n : Nat} {o : Oper} {g : Frm} {w0 : World} {ms : List Ent} {H0 H : Heap}
theorem run_copy_blk (w : World) (dT sT ty elem : TypeId) (b off dLen dCap : Nat) (a : Addr) (sLen sCap sz : Nat) (cur : Array Value) (t : TypeId) (cs : List Value)
    (hu : P.underlying dT = some (.slice elem)) (hs : (P.info? elem).map (·.size) = some sz)
    (hg : w.heap[b]? = some (.cells cur t (0, 0))) (hn : cs.length = Nat.min sLen dLen * sz)
    (hsrc : ∀ j v, cs[j]? = some v → w.cell? (a.add j) = some v) (hfit : off + cs.length ≤ cur.size) (h1 : ∀ v ∈ cs, v.oneCell' = true) :
    (Builtin.copy_ #[dT, sT] ty #[.slice (some ⟨b, off, none⟩) dLen dCap, .slice (some a) sLen sCap]).run P w =
      .ok (goInt (Nat.min sLen dLen)) (w.setRow b (cur.toList.take off ++ cs ++ cur.toList.drop (off + cs.length)).toArray) := by
  have hl := run_loadCells_list (P := P) w a cs hsrc
  have hst := run_storeCells_at P b off t cs 0 cur w hg (by simpa using hfit) h1
  cases hq : P.info? elem with
  | none => simp [hq] at hs
  | some i =>
    have hi : i.size = sz := by simpa [hq] using hs
    rw [hn] at hl
    simp [Builtin.copy_, run_underlying hu, Builtin.lenOf, Builtin.firstCells, sizeOf, typeInfo, hq, hi, hl, hst]
/-- copy into a block of the call's own, out of it or of what is held or owned -/
theorem os_copy_blk {dT sT elem : TypeId} {x y : Operand} {i b off dLen dCap sLen sCap sz : Nat} {a : Addr} {T : TypeId} {cur cs : List Value} {K : Value → Pred → Prop} (hu : P.underlying dT = some (.slice elem)) (hs : (P.info? elem).map (·.size) = some sz)
    (h : o.op = .call { callee := .builtin .copy, args := #[x, y], argTypes := #[dT, sT] }) (hx : ev g x = some (.slice (some ⟨b, off, none⟩) dLen dCap)) (hy : ev g y = some (.slice (some a) sLen sCap)) (hi : ms[i]? = some (.blk b T cur))
    (hn : cs.length = Nat.min sLen dLen * sz) (hsrc : ∀ w, St w0 H0 ms H w → ∀ j v, cs[j]? = some v → w.cell? (a.add j) = some v) (hfit : off + cs.length ≤ cur.length) (h1 : cs.all (·.oneCell') = true)
    (k : K (goInt (Nat.min sLen dLen)) (St w0 H0 (ms.set i (.blk b T (spl cur off cs))) H)) : OS P n o g (St w0 H0 ms H) K := fun a' w f s next Q hn' => by
  have hb : w.heap[b]? = some (.cells cur.toArray T (0, 0)) := s.sat _ (List.mem_of_getElem? hi)
  have hc := run_copy_blk (P := P) w dT sT o.type elem b off dLen dCap a sLen sCap sz cur.toArray T cs hu hs hb hn (hsrc w s) (by simpa using hfit) (by simpa [List.all_eq_true] using h1)
  have hr : (execOp a'.eval o).run P w = .ok (.value (goInt (Nat.min sLen dLen))) (w.setRow b (spl cur off cs).toArray) := by
    simp [execOp, h, resolve, invoke, builtin, f.eval hx, f.eval hy, hc, spl]
  unfold Oper.wp
  rw [hr]
  exact hn' _ _ _ k (s.turn hi (grownBy_setRow w b _) (setRow_heap w b cur.toArray _ T _ hb) (fun c hc => .inl hc))
/-- a part of a slice that begins at an address: the value alone -/
def offA (b off c i sz : Nat) : Addr := if c = i then ⟨b, off, none⟩ else ⟨b, off + i * sz, none⟩
theorem ov_slice_from {S : Pred} {T E : TypeId} {x y : Operand} {kk : IntKind} {j : Int} {b off m c sz : Nat} (hT : P.underlying T = some (.slice E)) (hs : ∀ w, (sizeOf E).run P w = .ok sz w) (h : o.op = .slice T x (some y) none none) (hx : ev g x = some (.slice (some ⟨b, off, none⟩) m c)) (hy : ev g y = some (.int kk j)) (h0 : 0 ≤ j) (h1 : j ≤ m) (hc : m ≤ c) :
    OV P n o g S (.slice (some (offA b off c j.toNat sz)) (m - j.toNat) (c - j.toNat)) := fun a w f _ => by
  have hb := run_sliceBounds_l (P := P) (w := w) (k := kk) (m := m) (c := c) h0 h1
  simp [execOp, h, f.eval hx, f.eval hy, Instr.sliceAt, run_underlying hT, Instr.slice, hb, hs, offA]
  split <;> simp_all [addr_add]
theorem ov_slice_to {S : Pred} {T E : TypeId} {x y : Operand} {kk : IntKind} {j : Int} {b off m c sz : Nat} (hT : P.underlying T = some (.slice E)) (hs : ∀ w, (sizeOf E).run P w = .ok sz w) (h : o.op = .slice T x none (some y) none) (hx : ev g x = some (.slice (some ⟨b, off, none⟩) m c)) (hy : ev g y = some (.int kk j)) (h0 : 0 ≤ j) (h1 : j ≤ c) :
    OV P n o g S (.slice (some ⟨b, off, none⟩) j.toNat c) := fun a w f _ => by
  have hb := run_sliceBounds_h (P := P) (w := w) (k' := kk) (m := m) (c := c) h0 h1
  simp [execOp, h, f.eval hx, f.eval hy, Instr.sliceAt, run_underlying hT, Instr.slice, hb, hs]
  intro _
  rw [addr_add, Nat.add_zero]
/-- append within the block -/
theorem os_append_blk {dT : TypeId} {x y : Operand} {i b m cap k c2 sz : Nat} {a : Addr} {T : TypeId} {cur cs : List Value} {K : Value → Pred → Prop} (hu : P.underlying dT = some (.slice T)) (hs : (P.info? T).map (·.size) = some sz)
    (h : o.op = .call { callee := .builtin .append, args := #[x, y], argTypes := #[dT, dT] }) (hx : ev g x = some (.slice (some ⟨b, 0, none⟩) m cap)) (hy : ev g y = some (.slice (some a) k c2)) (hi : ms[i]? = some (.blk b T cur))
    (hn : cs.length = k * sz) (hsrc : ∀ w, St w0 H0 ms H w → ∀ j v, cs[j]? = some v → w.cell? (a.add j) = some v) (hroom : m + k ≤ cap) (hfit : m * sz + cs.length ≤ cur.length) (h1 : cs.all (·.oneCell') = true)
    (kk : K (.slice (some ⟨b, 0, none⟩) (m + k) cap) (St w0 H0 (ms.set i (.blk b T (spl cur (m * sz) cs))) H)) : OS P n o g (St w0 H0 ms H) K := fun a' w f s next Q hn' => by
  have hb : w.heap[b]? = some (.cells cur.toArray T (0, 0)) := s.sat _ (List.mem_of_getElem? hi)
  cases hq : P.info? T with
  | none => simp [hq] at hs
  | some i0 =>
    have hi0 : i0.size = sz := by simpa [hq] using hs
    subst hi0
    have hc := run_append_room (P := P) w dT o.type T i0 hu hq b m cap cur.toArray hb a k c2 cs hn (hsrc w s) (by simpa [List.all_eq_true] using h1) hroom (by simpa using hfit)
    have hr : (execOp a'.eval o).run P w = .ok (.value (.slice (some ⟨b, 0, none⟩) (m + k) cap)) (w.setRow b (spl cur (m * i0.size) cs).toArray) := by
      simp [execOp, h, resolve, invoke, builtin, f.eval hx, f.eval hy, hc, spl]
    unfold Oper.wp
    rw [hr]
    exact hn' _ _ _ kk (s.turn hi (grownBy_setRow w b _) (setRow_heap w b cur.toArray _ T _ hb) (fun c hc => .inl hc))
end
end Go.Proofs.YtcgmhlakihjbkaaGreatDoor.W
