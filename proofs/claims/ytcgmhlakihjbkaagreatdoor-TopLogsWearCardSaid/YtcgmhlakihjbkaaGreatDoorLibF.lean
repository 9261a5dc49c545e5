/- Our own calculus, sixth part: rows that are held for good, bytes of a text, no error. A general text: it names no program. -/
import Derived.Test.YtcgmhlakihjbkaaGreatDoorLibE
import Derived.Lib.ConvBytes
import Derived.Laws.IdiomStrings
import Derived.Laws.AppendOwn
set_option linter.unusedVariables false
set_option linter.unusedSimpArgs false
namespace Go.Proofs.YtcgmhlakihjbkaaGreatDoor.W
open Go Go.RowKit
section
variable {P : Program} {n : Nat} {w0 : World} {H0 H : Heap} {ms : List Ent} {α : Type} {E : Enc α} {l : List α} {T : TypeId} {sz cap : Nat} {ao : Option Addr} {xs : List Value}
theorem WL.held {F : Fence} {ops : Array Oper} {L : List Oper} {g : Frm} {K : Frm → Pred → Prop} (hR : RL H E l xs) (k : ∀ H', l.length ≤ cap → Le H H' → SL H' E ao l → WL F P n ops L g (St w0 H0 ms H') K) :
    WL F P n ops L g (St w0 H0 (.row T sz l.length (.slice ao l.length cap) xs :: ms) H) K := fun a w f s => by
  obtain ⟨H', h1, h2, h3, h4⟩ := s.row_held hR
  exact k H' h1 h2 h3 a w f h4
theorem WP.held {F : Fence} {c : Code} {g : Frm} {Q : Exit → Frm → Pred → Prop} (hR : RL H E l xs) (k : ∀ H', l.length ≤ cap → Le H H' → SL H' E ao l → WP F P n c g (St w0 H0 ms H') Q) :
    WP F P n c g (St w0 H0 (.row T sz l.length (.slice ao l.length cap) xs :: ms) H) Q := fun a w f s => by
  obtain ⟨H', h1, h2, h3, h4⟩ := s.row_held hR
  exact k H' h1 h2 h3 a w f h4
/-- a box, held for good -/
theorem St.box_held {w : World} {b : Nat} {Tb : TypeId} {cs : List Value} (h : St w0 H0 (.blk b Tb cs :: ms) H w) : ∃ H', Le H H' ∧ (∀ j u, cs[j]? = some u → cellH H' ⟨b, j, none⟩ = some u) ∧ St w0 H0 ms H' w := by
  have hs := h.sat _ (List.mem_cons_self ..)
  refine ⟨_, freeze_le h, fun j u e => ?_, h.freeze⟩
  simp only [Ent.sat] at hs
  unfold cellH
  simp only [Ent.at, if_true]
  rw [hs]
  simp [e]
theorem WL.box_held {F : Fence} {ops : Array Oper} {L : List Oper} {g : Frm} {K : Frm → Pred → Prop} {b : Nat} {Tb : TypeId} {cs : List Value} (k : ∀ H', Le H H' → (∀ j u, cs[j]? = some u → cellH H' ⟨b, j, none⟩ = some u) → WL F P n ops L g (St w0 H0 ms H') K) :
    WL F P n ops L g (St w0 H0 (.blk b Tb cs :: ms) H) K := fun a w f s => by
  obtain ⟨H', h1, h2, h3⟩ := s.box_held
  exact k H' h1 h2 a w f h3
end
theorem RL.cons {α : Type} {H : Heap} {E : Enc α} {x : α} {l : List α} {cs xs : List Value} (h : E.rep H x cs) (k : RL H E l xs) : RL H E (x :: l) (cs ++ xs) := (RL.one h).append k
/-- a text's bytes as numbers -/
def bytesI (s : List UInt8) : List Int := s.map fun b => (b.toNat : Int)
section
variable {P : Program} {n : Nat} {o : Oper} {g : Frm} {S : Pred} {w0 : World} {ms : List Ent} {H0 H : Heap}
theorem os_bytes {A B e : TypeId} {x : Operand} {s : List UInt8} {K : Value → Pred → Prop} (hA : P.underlying A = some .string) (hB : P.underlying B = some (.slice e)) (he : P.underlying e = some (.int .u8)) (h : o.op = .convert A B x) (hx : ev g x = some (mkS s))
    (k : ∀ ao cap H', Le H H' → SL H' (encInt .u8) ao (bytesI s) → (bytesI s).length ≤ cap → K (.slice ao (bytesI s).length cap) (St w0 H0 ms H')) : OS P n o g (St w0 H0 ms H) K := fun a w f st next Q hn => by
  have hl : (bytesI s).length = s.length := by simp [bytesI]
  have hsz : (ByteArray.mk s.toArray).size = s.length := by simp [ByteArray.size]
  have hc := run_bytes_of_string (P := P) w A B e ⟨s.toArray⟩ hA hB he
  rw [hsz] at hc
  have hr : (execOp a.eval o).run P w = .ok (.value (.slice (some ⟨w.heap.size, 0, none⟩) s.length (grownCap w s.length 0 e))) (w.drew.alloc (.cells (bytesRow ⟨s.toArray⟩ (grownCap w s.length 0 e)) e ((bytesRow ⟨s.toArray⟩ (grownCap w s.length 0 e)).size, (bytesRow ⟨s.toArray⟩ (grownCap w s.length 0 e)).size + 1))) := by
    simp only [execOp, h, f.eval hx, mkS, Sem.run_bind, hc, Result.andThen_ok, Sem.run_pure]
  unfold Oper.wp
  rw [hr]
  have hb : Below w.heap.size w (w.drew.alloc (.cells (bytesRow ⟨s.toArray⟩ (grownCap w s.length 0 e)) e ((bytesRow ⟨s.toArray⟩ (grownCap w s.length 0 e)).size, (bytesRow ⟨s.toArray⟩ (grownCap w s.length 0 e)).size + 1))) :=
    ((Below.refl _ _).drew).alloc (Nat.le_refl _) _
  have K0 := k
  rw [hl] at K0
  have hcap : s.length ≤ grownCap w s.length 0 e := grownCap_ge w _ _ _
  refine hn _ _ _ (K0 (some ⟨w.heap.size, 0, none⟩) (grownCap w s.length 0 e) _ (newer_le st) (fun i x hx => ?_) hcap) (st.gain hb)
  refine ⟨_, rfl, fun j u hu => ?_⟩
  cases j with
  | succ j => simp at hu
  | zero =>
    simp at hu
    subst hu
    refine ⟨_, rfl, ?_⟩
    rw [addr_add]
    unfold cellH newer
    simp only [show ¬ w.heap.size < w.heap.size from Nat.lt_irrefl _, if_false]
    have hnew : (w.drew.alloc (.cells (bytesRow ⟨s.toArray⟩ (grownCap w s.length 0 e)) e ((bytesRow ⟨s.toArray⟩ (grownCap w s.length 0 e)).size, (bytesRow ⟨s.toArray⟩ (grownCap w s.length 0 e)).size + 1))).heap[w.heap.size]? = some (.cells (bytesRow ⟨s.toArray⟩ (grownCap w s.length 0 e)) e ((bytesRow ⟨s.toArray⟩ (grownCap w s.length 0 e)).size, (bytesRow ⟨s.toArray⟩ (grownCap w s.length 0 e)).size + 1)) := by
      show (w.heap.push _)[w.heap.size]? = _
      simp
    rw [hnew]
    unfold bytesI at hx
    rw [List.getElem?_map] at hx
    cases hsi : s[i]? with
    | none => rw [hsi] at hx; cases hx
    | some b =>
      rw [hsi] at hx
      cases hx
      have hlt := (List.getElem?_eq_some_iff.1 hsi).1
      simp [bytesRow, encInt, Enc.flat, Array.getElem?_append, hlt, hsi, List.getElem?_eq_getElem hlt] at hsi ⊢
      rw [hsi]
theorem ov_indexAddr_globL {α : Type} {l : List α} {T E : TypeId} {x y : Operand} {b m s : Nat} {kk : IntKind} {i : Int} (hl : l.length = m) (hT : P.underlying T = some (.array m E)) (hs : ∀ w, (sizeOf E).run P w = .ok s w) (h : o.op = .indexAddr T x y) (hx : ev g x = some (pB b 0)) (hy : ev g y = some (.int kk i)) (h0 : 0 ≤ i) (h1 : i < l.length) :
    OV P n o g S (pE (some ⟨b, 0, none⟩) (i.toNat * s)) := ov_indexAddr_glob hT hs h hx hy h0 (by rw [← hl]; exact h1)
theorem ov_neq_nilI {T T' : TypeId} {x : Operand} {c : Value} (hT : P.underlying T = some (.interface (P.methodsAt T))) (h : o.op = .binOp .neq T x (.const c) T') (hx : ev g x = some .nilIface) (hc : ev g (.const c) = some .nilIface) : OV P n o g S (.bool false) := fun a w f _ => by
  simp only [execOp, h, f.eval hx, f.eval hc, Sem.run_bind, eqGuard_nil_constR, Sem.run_pure, Result.andThen_ok, run_neq_nil_nil w T hT]
end
end Go.Proofs.YtcgmhlakihjbkaaGreatDoor.W
