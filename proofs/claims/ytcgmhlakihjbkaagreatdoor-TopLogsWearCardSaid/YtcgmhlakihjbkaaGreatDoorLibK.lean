/- Our own calculus, eleventh part: bytes in a row of the call's own, and what strings.Builder does. A general text: it names no program. -/
import Derived.Test.YtcgmhlakihjbkaaGreatDoorLibJ
import Derived.Lib.AppendStr
import Derived.Lib.Builder
set_option linter.unusedVariables false
set_option linter.unusedSimpArgs false
namespace Go.Proofs.YtcgmhlakihjbkaaGreatDoor.W
open Go Go.RowKit
/-- a byte, as a cell -/
def encByte : Enc UInt8 := Enc.flat 1 (fun b => [.int .u8 (b.toNat : Int)]) (fun _ => rfl)
theorem bytes_cells (s : List UInt8) : Lib.strCells ⟨s.toArray⟩ = s.flatMap fun b => [Value.int .u8 (b.toNat : Int)] := by
  induction s with
  | nil => rfl
  | cons x r ih =>
    simp only [Lib.strCells] at ih ⊢
    simp [List.flatMap_cons]
    simpa using ih
theorem RL.str (H : Heap) (s : List UInt8) : RL H encByte s (Lib.strCells ⟨s.toArray⟩) := by
  rw [bytes_cells]
  exact RL.flat s
theorem RL.bytes {H : Heap} : ∀ {l : List UInt8} {xs : List Value}, RL H encByte l xs → xs = Lib.byteCells l := by
  intro l
  induction l with
  | nil =>
    intro xs h
    exact List.eq_nil_of_length_eq_zero (by simpa using h.1)
  | cons b r ih =>
    intro xs h
    have h0 := h.2 0 b rfl
    have hs : encByte.size = 1 := rfl
    rw [hs] at h0
    cases xs with
    | nil => cases h0
    | cons x ys =>
      have e : [x] = [Value.int .u8 (b.toNat : Int)] := h0
      have hy : RL H encByte r ys := by
        have := h.drop 1
        rw [hs] at this
        simpa using this
      rw [ih hy]
      injection e with e1
      subst e1
      rfl
section
variable {P : Program} {n : Nat} {o : Oper} {g : Frm} {w0 : World} {ms : List Ent} {H0 H : Heap}
theorem append_block_str {w w' : World} {base : Nat} {T U E ty : TypeId} {i0 : TypeInfo} {v v' : Value} {m : Nat} {s : ByteArray} {xs : List Value} (hT : P.underlying T = some (.slice E)) (hU : P.underlying U = some .string) (hi : P.info? E = some i0) (hz : i0.zero = some (.int .u8 0)) (hs1 : i0.size = 1) (hb1 : i0.bytes = 1)
    (hv : w.ownsRow base E 1 v m xs) (hm : m + s.size ≤ maxLen) (hb : m + s.size ≤ 140737488355328) (hnil : v' = .slice none 0 0 ↔ v = .slice none 0 0 ∧ s.size = 0)
    (hr : (Builtin.append_ #[T, U] ty #[v, .string s]).run P w = .ok v' w') : ∀ d, v'.ownBlock = some d → v.ownBlock = some d ∨ w.heap.size ≤ d := fun d hd => by
  have hmm : maxLen ≤ 9223372036854775807 := by decide
  have hcells := fun b (h : v.ownBlock = some b) => hv.cells (g := b) h
  rcases hv.2 with ⟨rfl, rfl⟩ | ⟨b, cap, cur, rfl, _, hh, hle, _, hcs, htake⟩
  · by_cases hk : s.size = 0
    · rw [hnil.2 ⟨rfl, hk⟩] at hd
      simp [Value.ownBlock] at hd
    · have := run_append_nil_string (P := P) w T U ty E i0 (.int .u8 0) hT hU hi hz s (by omega) (by omega) (by rw [hb1]; omega)
      rw [this] at hr
      injection hr with e1 _
      subst e1
      simp [Value.ownBlock] at hd
      right; omega
  · by_cases hroom : m + s.size ≤ cap
    · have := Lib.run_append_room_string (P := P) w T U ty E i0 hT hU hi hs1 b m cap cur hh s hroom (by rw [hcs]; omega)
      rw [this] at hr
      injection hr with e1 _
      subst e1
      exact .inl hd
    · have := Lib.run_append_grow_string (P := P) w T U ty E i0 (.int .u8 0) hT hU hi hz ⟨b, 0, none⟩ m cap xs (by rw [hs1]; exact hv.1) (hcells b rfl) s (by omega) (by omega) (by rw [hb1]; exact growslice_fits (by omega) (by omega))
      rw [this] at hr
      injection hr with e1 _
      subst e1
      simp [Value.ownBlock] at hd
      right; omega
theorem os_app_str {T U E : TypeId} {p q : Operand} {i : Nat} {l r x : List UInt8} {v : Value} {xs : List Value} {K : Value → Pred → Prop} (hT : P.underlying T = some (.slice E)) (hU : P.underlying U = some .string) (hI : (P.info? E).map (fun i => (i.zero, i.size, i.bytes)) = some (some (.int .u8 0), 1, 1))
    (h : o.op = .call { callee := .builtin .append, args := #[p, q], argTypes := #[T, U] }) (hx : ev g p = some v) (hy : ev g q = some (mkS r)) (hi : ms[i]? = some (.row E encByte.size l.length v xs)) (hR : RL H encByte l xs) (hm : appO 1 l r = some x)
    (kk : ∀ ao cap ys, RL H encByte (l ++ r) (xs ++ ys) → K (.slice ao (l ++ r).length cap) (St w0 H0 (ms.set i (.row E encByte.size (l ++ r).length (.slice ao (l ++ r).length cap) (xs ++ ys))) H)) : OS P n o g (St w0 H0 ms H) K := fun a w f s next Q hn => by
  obtain ⟨i0, hi0, hz0, hz1, hz2⟩ := info_parts hI
  have si : w.ownsRow w0.heap.size E 1 v l.length xs := s.sat _ (List.mem_of_getElem? hi)
  have hsz : (ByteArray.mk r.toArray).size = r.length := by simp [ByteArray.size]
  obtain ⟨⟨hb1, hb2⟩, _⟩ := appO_some hm
  obtain ⟨v', w', hr, hown, hgr, hnil⟩ := Lib.run_append_own_string (P := P) w w0.heap.size T U o.type E i0 hT hU hi0 hz0 hz1 hz2 v l.length xs si ⟨r.toArray⟩ (by rw [hsz]; exact hb2) (by rw [hsz]; omega) s.below.size
  have hr' : (execOp a.eval o).run P w = .ok (.value v') w' := by
    simp [execOp, h, resolve, invoke, builtin, f.eval hx, f.eval hy, mkS, hr]
  have hblk := append_block_str hT hU hi0 hz0 hz1 hz2 si (by rw [hsz]; exact hb2) (by rw [hsz]; omega) hnil hr
  unfold Oper.wp
  rw [hr']
  rw [hsz, ← List.length_append] at hown
  have hv : ∃ ao cap, v' = .slice ao (l ++ r).length cap := by
    rcases hown.2 with ⟨e1, e2⟩ | ⟨b', c', _, e1, _⟩
    · exact ⟨none, 0, by rw [e1, e2]⟩
    · exact ⟨_, c', e1⟩
  obtain ⟨ao, cap, rfl⟩ := hv
  exact hn _ _ _ (kk ao cap _ (hR.append (RL.str H r))) (s.turn hi hgr hown hblk)
theorem eqGuard_ptr {op : BinOp} {t : TypeId} {x y : Operand} {a b : Option Addr} : eqGuard op t x y (.pointer a) (.pointer b) = pure () := by
  cases op <;> rfl
theorem ov_toUnsafe {S : Pred} {A B t e : TypeId} {x : Operand} {b sz : Nat} {cs : Array Value} (hA : P.underlying A = some (.pointer t)) (hB : P.underlying B = some .unsafePointer) (hs : (P.info? t).map (·.size) = some sz) (h0 : sz ≠ 0) (h : o.op = .convert A B x) (hx : ev g x = some (pB b 0)) (hh : ∀ w, S w → w.heap[b]? = some (.cells cs e (0, 0))) (hc : 0 < cs.size) : OV P n o g S (pB b 0) := fun a w f s => by
  obtain ⟨j, hj, hjs⟩ := Option.map_eq_some_iff.1 hs
  have e1 := Lib.run_to_unsafe (P := P) w (src := A) (dst := B) (cells := cs.size) (e := e) ⟨b, 0, none⟩ hA hB hj (by rw [hjs]; exact h0) (by simp [World.shape?, hh w s]) hc
  simp [execOp, h, f.eval hx, pB, e1]
theorem ov_fromUnsafe {S : Pred} {A B t e : TypeId} {x : Operand} {b sz : Nat} {cs : Array Value} (hA : P.underlying A = some .unsafePointer) (hB : P.underlying B = some (.pointer t)) (hs : (P.info? t).map (·.size) = some sz) (h : o.op = .convert A B x) (hx : ev g x = some (pB b 0)) (hh : ∀ w, S w → w.heap[b]? = some (.cells cs e (0, 0))) (hl : liesAt P P.depth e (cs.size / P.cellsOf e) 0 t 1 = true) : OV P n o g S (pB b 0) := fun a w f s => by
  obtain ⟨j, hj, hjs⟩ := Option.map_eq_some_iff.1 hs
  have e1 := Lib.run_from_unsafe (P := P) w (src := A) (dst := B) (cells := cs.size) (e := e) ⟨b, 0, none⟩ hA hB hj (by simp [World.shape?, hh w s]) hl
  simp [execOp, h, f.eval hx, pB, e1]
theorem ov_noEscape {S : Pred} {F : FuncId} {fn : Func} {x : Operand} {ats : Array TypeId} {v : Value} (hF : P.funcs[F]? = some fn) (hname : (fn.name == "runtime.NumGoroutine") = false) (hb : fn.body.isNone = true) (hnx : Extern.findNext fn = none) (he : Extern.find fn = some Extern.AbiNoEscape.same)
    (h : o.op = .call { callee := .value (.func F), args := #[x], argTypes := ats }) (hx : ev g x = some v) : OV P n o g S v := fun a w f s => by
  have e1 := run_callFunc_extern (P := P) hF hname hb hnx he #[v] w
  rw [Lib.run_noEscape] at e1
  simp only [Result.andThen_ok] at e1
  have hf : ev g (Operand.func F) = some (.func (.func F) #[] #[]) := rfl
  simp [execOp, h, resolve, invoke, f.eval hf, Deferred.ofValue, f.eval hx, e1]
/-- what of the held memory was there at the entry -/
def older (w0 : World) (H : Heap) : Heap := fun b => if b < w0.heap.size then H b else none
theorem older_le (w0 : World) (H : Heap) : Le (older w0 H) H := fun b o h => by
  unfold older at h
  split at h
  · exact h
  · cases h
/-- behind a call that turns only what the call itself has made -/
theorem St.wiped {w w' : World} (h : St w0 H0 ms H w) (k : Below w0.heap.size w w') : St w0 H0 [] (older w0 H) w' := by
  refine ⟨fun b o e hb => h.old b o (older_le _ _ b o e) hb, h.below.trans k, fun b o e => ?_, fun e he => (by cases he), fun e he => (by cases he), List.Pairwise.nil⟩
  have e1 := h.hold b o (older_le _ _ b o e)
  have hb : b < w0.heap.size := by
    unfold older at e
    split at e
    · assumption
    · cases e
  show w'.heap[b]? = some o
  rw [k.block b hb]
  exact e1
/-- a builder among what the call has made -/
theorem St.builder {w : World} {i j b : Nat} {T E : TypeId} {pv v : Value} {m : Nat} {xs : List Value} (h : St w0 H0 ms H w) (hi : ms[i]? = some (.blk b T [pv, v])) (hj : ms[j]? = some (.row E 1 m v xs)) : Lib.BuilderAt T E w0.heap.size b pv xs w := by
  have hr : w.ownsRow w0.heap.size E 1 v m xs := h.sat _ (List.mem_of_getElem? hj)
  have hl : m = xs.length := by rw [hr.1, Nat.mul_one]
  refine ⟨(h.own _ (List.mem_of_getElem? hi) b rfl).1, v, h.sat _ (List.mem_of_getElem? hi), by rw [← hl]; exact hr, fun e => ?_⟩
  obtain ⟨hi1, hi2⟩ := List.getElem?_eq_some_iff.1 hi
  obtain ⟨hj1, hj2⟩ := List.getElem?_eq_some_iff.1 hj
  have hp := List.pairwise_iff_getElem.1 h.apart
  rcases Nat.lt_trichotomy i j with k | k | k
  · have := hp i j hi1 hj1 k b (by rw [hi2]; rfl)
    rw [hj2] at this
    exact this e
  · subst k
    rw [hi2] at hj2
    cases hj2
  · have := hp j i hj1 hi1 k b (by rw [hj2]; exact e)
    rw [hi2] at this
    exact this rfl
end
end Go.Proofs.YtcgmhlakihjbkaaGreatDoor.W
