/- Our own calculus, tenth part: rows turned into blocks and back, and what is done to blocks. A general text: it names no program. -/
import Derived.Test.YtcgmhlakihjbkaaGreatDoorLibI
import Derived.Lib.Overlaps
import Derived.Lib.AppendZerosOnto
import Derived.Laws.Externs
set_option linter.unusedVariables false
set_option linter.unusedSimpArgs false
namespace Go.Proofs.YtcgmhlakihjbkaaGreatDoor.W
open Go Go.RowKit
section
variable {w w0 : World} {ms : List Ent} {H0 H : Heap} {T : TypeId} {sz m cap b i : Nat} {ao : Option Addr} {xs cur : List Value}
theorem St.row_blk_at (h : St w0 H0 ms H w) (hi : ms[i]? = some (.row T sz m (.slice ao m cap) xs)) (hm : 0 < m) : ∃ b cur, ao = some ⟨b, 0, none⟩ ∧ cur.length = cap * sz ∧ m ≤ cap ∧ cap ≤ maxLen ∧ cur.take (m * sz) = xs ∧ St w0 H0 (ms.set i (.blk b T cur)) H w := by
  have hs := h.sat _ (List.mem_of_getElem? hi)
  obtain ⟨b, cu, rfl, hg, h3, h4, h5, h6, h7⟩ := own_some hs hm
  refine ⟨b, cu.toList, rfl, by rw [Array.length_toList, h3], h4, h5, h7, h.turn hi (World.grownBy.refl _ _) ?_ (fun c hc => .inl hc)⟩
  show w.heap[b]? = some (.cells cu.toList.toArray T (0, 0))
  rw [Array.toArray_toList]
  exact hg
theorem St.blk_row_at (h : St w0 H0 ms H w) (hi : ms[i]? = some (.blk b T cur)) (hl : cur.length = cap * sz) (hm : m ≤ cap) (hc : cap ≤ maxLen) : St w0 H0 (ms.set i (.row T sz m (.slice (some ⟨b, 0, none⟩) m cap) (cur.take (m * sz)))) H w := by
  have hs : w.heap[b]? = some (.cells cur.toArray T (0, 0)) := h.sat _ (List.mem_of_getElem? hi)
  have hb := (h.own _ (List.mem_of_getElem? hi) b rfl).1
  refine h.turn hi (World.grownBy.refl _ _) ⟨?_, .inr ⟨b, cap, cur.toArray, rfl, hb, hs, hm, hc, by simpa using hl, rfl⟩⟩ (fun c hc => .inl hc)
  rw [List.length_take, hl]
  exact Nat.min_eq_left (Nat.mul_le_mul_right _ hm)
theorem St.far {k : Nat} {e e' : Ent} (h : St w0 H0 ms H w) (hi : ms[i]? = some e) (hk : ms[k]? = some e') (hne : i ≠ k) : ∀ b, e.at = some b → e'.at ≠ some b := fun b h1 h2 => by
  obtain ⟨hi1, hi2⟩ := List.getElem?_eq_some_iff.1 hi
  obtain ⟨hk1, hk2⟩ := List.getElem?_eq_some_iff.1 hk
  have hp := List.pairwise_iff_getElem.1 h.apart
  rcases Nat.lt_or_gt_of_ne hne with q | q
  · exact hp i k hi1 hk1 q b (by rw [hi2]; exact h1) (by rw [hk2]; exact h2)
  · exact hp k i hk1 hi1 q b (by rw [hk2]; exact h2) (by rw [hi2]; exact h1)
theorem St.move {e : Ent} (h : St w0 H0 (e :: ms) H w) (i : Nat) : St w0 H0 (ms.set i e) H w := by
  have hm : ∀ x ∈ ms.set i e, x ∈ e :: ms := fun x hx => by
    rcases List.mem_or_eq_of_mem_set hx with h | rfl
    · exact List.mem_cons_of_mem _ h
    · exact List.mem_cons_self ..
  refine ⟨h.old, h.below, h.hold, fun x hx => h.sat x (hm x hx), fun x hx => h.own x (hm x hx), ?_⟩
  rw [List.pairwise_iff_getElem]
  intro p q hp hq hpq b hb hb'
  have hA := fun y hy => List.rel_of_pairwise_cons (a' := y) h.apart hy
  have hB := List.pairwise_iff_getElem.1 (List.Pairwise.of_cons h.apart)
  rw [List.getElem_set] at hb hb'
  rw [List.length_set] at hp hq
  by_cases h1 : i = p
  · rw [if_pos h1] at hb
    rw [if_neg (by omega)] at hb'
    exact hA _ (List.getElem_mem hq) b hb hb'
  · rw [if_neg h1] at hb
    by_cases h2 : i = q
    · rw [if_pos h2] at hb'
      exact hA _ (List.getElem_mem hp) b hb' hb
    · rw [if_neg h2] at hb'
      exact hB p q hp hq hpq b hb hb'
end
section
variable {α : Type} {H : Heap} {E : Enc α} {l : List α} {xs : List Value}
theorem RL.take (h : RL H E l xs) (n : Nat) : RL H E (l.take n) (xs.take (n * E.size)) := by
  refine ⟨?_, fun i x e => ?_⟩
  · rw [List.length_take, List.length_take, h.1]
    rcases Nat.le_total n l.length with k | k
    · rw [Nat.min_eq_left k, Nat.min_eq_left (Nat.mul_le_mul_right _ k)]
    · rw [Nat.min_eq_right k, Nat.min_eq_right (Nat.mul_le_mul_right _ k)]
  · rw [List.getElem?_take] at e
    split at e
    · rename_i hlt
      have := h.2 i x e
      rw [List.drop_take, List.take_take, Nat.min_eq_left]
      · exact this
      · rw [← Nat.sub_mul]
        exact Nat.le_mul_of_pos_left _ (by omega)
    · cases e
theorem RL.drop (h : RL H E l xs) (n : Nat) : RL H E (l.drop n) (xs.drop (n * E.size)) := by
  refine ⟨?_, fun i x e => ?_⟩
  · rw [List.length_drop, List.length_drop, h.1, Nat.sub_mul]
  · rw [List.getElem?_drop] at e
    have := h.2 _ x e
    rw [List.drop_drop]
    rw [Nat.add_mul] at this
    exact this
theorem RL.ones (hys : RL H E l xs) (hsz : 0 < E.size) (hone : ∀ H x cs, E.rep H x cs → cs.all (·.oneCell') = true) : xs.all (·.oneCell') = true := by
  rw [List.all_eq_true]
  intro u hu
  obtain ⟨t, ht⟩ := List.getElem?_of_mem hu
  have hlt := (List.getElem?_eq_some_iff.1 ht).1
  have hq : t / E.size < l.length := by
    rw [Nat.div_lt_iff_lt_mul hsz, ← hys.1]
    exact hlt
  have h2 := hys.2 (t / E.size) _ (List.getElem?_eq_getElem hq)
  have h3 := List.all_eq_true.1 (hone _ _ _ h2) u
  apply h3
  refine List.mem_iff_getElem?.2 ⟨t % E.size, ?_⟩
  rw [List.getElem?_take, if_pos (Nat.mod_lt _ hsz), List.getElem?_drop]
  have : t / E.size * E.size + t % E.size = t := by rw [Nat.mul_comm]; exact Nat.div_add_mod t _
  rw [this]
  exact ht
end
section
variable {P : Program} {n : Nat} {o : Oper} {g : Frm} {w0 : World} {ms : List Ent} {H0 H : Heap}
theorem OV.as {S : Pred} {v v' : Value} (h : OV P n o g S v) (e : v = v') : OV P n o g S v' := e ▸ h
theorem WP.ex {F : Fence} {α : Type} {c : Code} {S : α → Pred} {Q : Exit → Frm → Pred → Prop} (h : ∀ x, WP F P n c g (S x) Q) : WP F P n c g (fun w => ∃ x, S x w) Q := fun a w f ⟨x, s⟩ => h x a w f s
theorem WP.pre {F : Fence} {p : Prop} {c : Code} {S : Pred} {Q : Exit → Frm → Pred → Prop} (h : p → WP F P n c g S Q) : WP F P n c g (fun w => p ∧ S w) Q := fun a w f ⟨hp, s⟩ => h hp a w f s
theorem ov_cap {S : Pred} {T E : TypeId} {x : Operand} {ao : Option Addr} {m c : Nat} (hT : P.underlying T = some (.slice E)) (h : o.op = .call { callee := .builtin .cap, args := #[x], argTypes := #[T] }) (hx : ev g x = some (.slice ao m c)) :
    OV P n o g S (.int .i64 (c : Int)) := fun a w f _ => by
  simp [execOp, h, resolve, invoke, builtin, f.eval hx, Builtin.cap_, run_underlying hT, goInt]
theorem run_sliceBounds_lhm {P : Program} {w : World} {k k' k2 : IntKind} {i j q : Int} {m c : Nat} (h0 : 0 ≤ i) (h1 : i ≤ j) (h2 : j ≤ q) (h3 : q ≤ c) : (Instr.sliceBounds true m c (some (.int k i)) (some (.int k' j)) (some (.int k2 q))).run P w = .ok (i.toNat, j.toNat, q.toNat) w := by
  have e0 := run_sliceBound (P := P) (w := w) k2 q c .slice3Acap (by omega) h3
  have e1 := run_sliceBound (P := P) (w := w) k' j q.toNat .slice3B (by omega) (by omega)
  have e2 := run_sliceBound (P := P) (w := w) k i j.toNat .slice3C h0 (by omega)
  simp [Instr.sliceBounds, e0, e1, e2]
/-- slices.Insert, said of lists -/
def insO {α : Type} (bytes : Nat) (l : List α) (i : Int) (r : List α) : Option (List α) := if 0 ≤ i ∧ i ≤ l.length ∧ (l.length + r.length) * bytes ≤ 140737488355328 ∧ l.length + r.length ≤ maxLen then some (l.take i.toNat ++ r ++ l.drop i.toNat) else none
theorem insO_some {α : Type} {bytes : Nat} {l r x : List α} {i : Int} (h : insO bytes l i r = some x) : 0 ≤ i ∧ i ≤ l.length ∧ (l.length + r.length) * bytes ≤ 140737488355328 ∧ l.length + r.length ≤ maxLen ∧ x = l.take i.toNat ++ r ++ l.drop i.toNat := by
  unfold insO at h
  split at h
  · rename_i k
    exact ⟨k.1, k.2.1, k.2.2.1, k.2.2.2, (Option.some.inj h).symm⟩
  · cases h
/-- slices.Delete, said of lists -/
def delO {α : Type} (l : List α) (i j : Int) : Option (List α) := if 0 ≤ i ∧ i ≤ j ∧ j ≤ l.length then some (l.take i.toNat ++ l.drop j.toNat) else none
theorem delO_some {α : Type} {l x : List α} {i j : Int} (h : delO l i j = some x) : 0 ≤ i ∧ i ≤ j ∧ j ≤ l.length ∧ x = l.take i.toNat ++ l.drop j.toNat := by
  unfold delO at h
  split at h
  · rename_i k
    exact ⟨k.1, k.2.1, k.2.2, (Option.some.inj h).symm⟩
  · cases h
theorem spl_up {cur ys zs : List Value} {a : Nat} (h : a + ys.length + zs.length ≤ cur.length) : (spl (spl cur a ys) (a + ys.length) zs).take (a + ys.length + zs.length) = cur.take a ++ ys ++ zs := by
  have h1 : (cur.take a ++ ys).length = a + ys.length := by simp; omega
  have h2 : (spl cur a ys).take (a + ys.length) = cur.take a ++ ys := by
    unfold spl
    rw [← h1, List.take_left]
  have h3 : (cur.take a ++ ys ++ zs).length = a + ys.length + zs.length := by rw [List.length_append, h1]
  unfold spl at h2 ⊢
  rw [h2, ← h3, List.take_left]
theorem spl_down {cur ys zs : List Value} {a : Nat} (h : a + ys.length + zs.length ≤ cur.length) : (spl (spl cur (a + ys.length) zs) a ys).take (a + ys.length + zs.length) = cur.take a ++ ys ++ zs := by
  have e1 : (spl cur (a + ys.length) zs).take a = cur.take a := by
    unfold spl
    rw [List.append_assoc, List.take_append_of_le_length (by simp; omega), List.take_take, Nat.min_eq_left (by omega)]
  have e2 : (spl cur (a + ys.length) zs).drop (a + ys.length) = zs ++ cur.drop (a + ys.length + zs.length) := by
    unfold spl
    have h1 : (cur.take (a + ys.length)).length = a + ys.length := by simp; omega
    have h2 := @List.drop_left _ (cur.take (a + ys.length)) (zs ++ cur.drop (a + ys.length + zs.length))
    rw [h1] at h2
    rw [List.append_assoc]
    exact h2
  have h3 : (cur.take a ++ ys ++ zs).length = a + ys.length + zs.length := by simp; omega
  have e3 : spl (spl cur (a + ys.length) zs) a ys = cur.take a ++ ys ++ zs ++ cur.drop (a + ys.length + zs.length) := by
    have : spl (spl cur (a + ys.length) zs) a ys = (spl cur (a + ys.length) zs).take a ++ ys ++ (spl cur (a + ys.length) zs).drop (a + ys.length) := rfl
    rw [this, e1, e2]
    simp [List.append_assoc]
  rw [e3, ← h3, List.take_left]
theorem spl_keep {cur zs : List Value} {a : Nat} (h : a ≤ cur.length) : (spl cur a zs).take a = cur.take a := by
  unfold spl
  rw [List.append_assoc, List.take_append_of_le_length (by simp; omega), List.take_take, Nat.min_self]
theorem spl_front {cur cs : List Value} {a : Nat} (h : a + cs.length ≤ cur.length) : (spl cur a cs).take (a + cs.length) = cur.take a ++ cs := by
  have h1 : (cur.take a ++ cs).length = a + cs.length := by simp; omega
  unfold spl
  rw [← h1, List.take_left]
/-- a slice that nobody reads -/
theorem ov_slice_fromO {S : Pred} {T E : TypeId} {x y : Operand} {kk : IntKind} {j : Int} {ao : Option Addr} {m c sz : Nat} (hT : P.underlying T = some (.slice E)) (hs : ∀ w, (sizeOf E).run P w = .ok sz w) (h : o.op = .slice T x (some y) none none) (hx : ev g x = some (.slice ao m c)) (hy : ev g y = some (.int kk j)) (h0 : 0 ≤ j) (h1 : j ≤ m) :
    OV P n o g S (.slice (if c = j.toNat then ao else ao.map (·.add (j.toNat * sz))) (m - j.toNat) (c - j.toNat)) := fun a w f _ => by
  have hb := run_sliceBounds_l (P := P) (w := w) (k := kk) (m := m) (c := c) h0 h1
  simp [execOp, h, f.eval hx, f.eval hy, Instr.sliceAt, run_underlying hT, Instr.slice, hb, hs]
theorem ov_slice_lhmO {S : Pred} {T E : TypeId} {x y z u : Operand} {kk k2 k3 : IntKind} {j q r : Int} {ao : Option Addr} {m c sz : Nat} (hT : P.underlying T = some (.slice E)) (hs : ∀ w, (sizeOf E).run P w = .ok sz w) (h : o.op = .slice T x (some y) (some z) (some u)) (hx : ev g x = some (.slice ao m c)) (hy : ev g y = some (.int kk j)) (hz : ev g z = some (.int k2 q)) (hu : ev g u = some (.int k3 r)) (h0 : 0 ≤ j) (h1 : j ≤ q) (h2 : q ≤ r) (h3 : r ≤ c) :
    OV P n o g S (.slice (if r.toNat = j.toNat then ao else ao.map (·.add (j.toNat * sz))) (q.toNat - j.toNat) (r.toNat - j.toNat)) := fun a w f _ => by
  have hb := run_sliceBounds_lhm (P := P) (w := w) (k := kk) (k' := k2) (k2 := k3) (m := m) (c := c) h0 h1 h2 h3
  simp [execOp, h, f.eval hx, f.eval hy, f.eval hz, f.eval hu, Instr.sliceAt, run_underlying hT, Instr.slice, hb, hs]
theorem ov_slice_lh {S : Pred} {T E : TypeId} {x y z : Operand} {kk k2 : IntKind} {j q : Int} {b off m c sz : Nat} (hT : P.underlying T = some (.slice E)) (hs : ∀ w, (sizeOf E).run P w = .ok sz w) (h : o.op = .slice T x (some y) (some z) none) (hx : ev g x = some (.slice (some ⟨b, off, none⟩) m c)) (hy : ev g y = some (.int kk j)) (hz : ev g z = some (.int k2 q)) (h0 : 0 ≤ j) (h1 : j ≤ q) (h2 : q ≤ c) :
    OV P n o g S (.slice (some (offA b off c j.toNat sz)) (q.toNat - j.toNat) (c - j.toNat)) := fun a w f _ => by
  have hb := run_sliceBounds_lh (P := P) (w := w) (k := kk) (k' := k2) (m := m) (c := c) h0 h1 h2
  simp [execOp, h, f.eval hx, f.eval hy, f.eval hz, Instr.sliceAt, run_underlying hT, Instr.slice, hb, hs, offA]
  split <;> simp_all [addr_add]
theorem offA_lt {b off c i sz : Nat} (h : i < c) : offA b off c i sz = ⟨b, off + i * sz, none⟩ := by
  rw [offA, if_neg (by omega)]
/-- clear a part of a block -/
theorem os_clear_blk {T E : TypeId} {x : Operand} {i b off k c sz : Nat} {cur : List Value} {K : Value → Pred → Prop} {z : Value} (hT : P.underlying T = some (.slice E)) (hv : ∀ w, (zeroValue E).run P w = .ok z w) (h1 : z.cells.toList.all (·.oneCell') = true) (hsz : z.cells.size = sz)
    (h : o.op = .call { callee := .builtin .clear, args := #[x], argTypes := #[T] }) (hx : ev g x = some (.slice (some ⟨b, off, none⟩) k c)) (hi : ms[i]? = some (.blk b E cur)) (hk : 0 < k) (hs0 : 0 < sz) (hfit : off + k * sz ≤ cur.length)
    (kk : ∀ zs : List Value, zs.length = k * sz → K (.tuple #[]) (St w0 H0 (ms.set i (.blk b E (spl cur off zs))) H)) : OS P n o g (St w0 H0 ms H) K := fun a' w f s next Q hn => by
  have hb : w.heap[b]? = some (.cells cur.toArray E (0, 0)) := s.sat _ (List.mem_of_getElem? hi)
  obtain ⟨zs, hzs⟩ : ∃ zs, zs = (Builtin.zeroCells z.cells k).toList := ⟨_, rfl⟩
  have hl : zs.length = k * sz := by rw [hzs]; simp [Builtin.zeroCells, hsz]
  have hone : ∀ v ∈ zs, v.oneCell' = true := fun v hv' => by
    rw [hzs] at hv'
    simp only [Builtin.zeroCells, Array.toList_map, List.mem_map] at hv'
    obtain ⟨j, _, rfl⟩ := hv'
    have hlt : j % z.cells.size < z.cells.size := Nat.mod_lt _ (by omega)
    rw [getElem!_pos z.cells _ hlt]
    exact List.all_eq_true.1 h1 _ (by simp)
  have hst := run_storeCells_at P b off E zs 0 cur.toArray w hb (by simpa [hl] using hfit) hone
  simp only [Nat.add_zero] at hst
  obtain ⟨k', rfl⟩ : ∃ k', k = k' + 1 := ⟨k - 1, by omega⟩
  have hr : (execOp a'.eval o).run P w = .ok (.value (.tuple #[])) (w.setRow b (spl cur off zs).toArray) := by
    simp [execOp, h, resolve, invoke, builtin, f.eval hx, Builtin.clear_, run_underlying hT, hv, ← hzs, hst, spl]
  unfold Oper.wp
  rw [hr]
  exact hn _ _ _ (kk zs hl) (s.turn hi (grownBy_setRow w b _) (setRow_heap w b cur.toArray _ E _ hb) (fun c hc => .inl hc))
/-- append of so many zeros where there is no room -/
theorem os_append_zeros {T Tn E : TypeId} {x y : Operand} {m c k sz bytes : Nat} {kn : IntKind} {q : Int} {a : Addr} {z : Value} {olds : List Value} {K : Value → Pred → Prop} (hT : P.underlying T = some (.slice E)) (hTn : P.underlying Tn = some (.int kn)) (hI : (P.info? E).map (fun i => (i.zero, i.size, i.bytes)) = some (some z, sz, bytes)) (hz : z.cells.size = sz) (hsz : 0 < sz)
    (h : o.op = .call { callee := .builtin .append, args := #[x, y], argTypes := #[T, Tn] }) (hx : ev g x = some (.slice (some a) m c)) (hy : ev g y = some (.int kn q)) (hq : q = (k : Int)) (hk : 0 < k) (hroom : c < m + k)
    (holds : olds.length = m * sz) (hsrc : ∀ w, St w0 H0 ms H w → ∀ j v, olds[j]? = some v → w.cell? (a.add j) = some v) (hb : (m + k) * bytes ≤ 140737488355328) (hm : m + k ≤ maxLen)
    (kk : ∀ b2 c2 cur2, cur2.length = c2 * sz → m + k ≤ c2 → c2 ≤ maxLen → cur2.take (m * sz) = olds → K (.slice (some ⟨b2, 0, none⟩) (m + k) c2) (St w0 H0 (.blk b2 E cur2 :: ms) H)) : OS P n o g (St w0 H0 ms H) K := fun a' w f s next Q hn => by
  obtain ⟨i0, hi0, hz0, hz1, hz2⟩ := info_parts hI
  have hold : (Builtin.firstCells i0.size m (.slice (some a) m c)).run P w.drew = .ok olds.toArray w.drew := by
    have := run_loadCells_list (P := P) w.drew a olds (hsrc _ s.drew)
    simp only [Builtin.firstCells]
    rw [hz1, ← holds]
    exact this
  have hmm : maxLen ≤ 9223372036854775807 := by decide
  subst hq
  have hbk : k * bytes ≤ (m + k) * bytes := Nat.mul_le_mul_right _ (by omega)
  have hr0 := Lib.run_append_grow_zeros w T Tn o.type E i0 z kn kn hT hTn hi0 hz0 (some a) m c olds hold k hk (by omega) (by omega) (by omega) (by rw [hz2]; omega) (by rw [hz2]; exact growslice_fits hroom hb)
  have hG1 := grownCap_ge w (m + k) c E
  have hG2 := grownCap_le_maxLen w (m + k) c E hm
  obtain ⟨G, hG⟩ : ∃ G, G = grownCap w (m + k) c E := ⟨_, rfl⟩
  rw [← hG] at hr0 hG1 hG2
  obtain ⟨cur2, hcur⟩ : ∃ cur2 : List Value, cur2.toArray = olds.toArray ++ Builtin.zeroCells z.cells k ++ Builtin.zeroCells z.cells (G - (m + k)) := ⟨_, Array.toArray_toList⟩
  have hcl : cur2 = olds ++ ((Builtin.zeroCells z.cells k).toList ++ (Builtin.zeroCells z.cells (G - (m + k))).toList) := by
    have := congrArg Array.toList hcur
    simpa using this
  rw [← hcur] at hr0
  have hr : (execOp a'.eval o).run P w = .ok (.value (.slice (some ⟨w.heap.size, 0, none⟩) (m + k) G)) (w.drew.alloc (.cells cur2.toArray E)) := by
    simp [execOp, h, resolve, invoke, builtin, f.eval hx, f.eval hy, hr0]
  unfold Oper.wp
  rw [hr]
  refine hn _ _ _ (kk w.heap.size G cur2 ?_ hG1 hG2 ?_) (s.drew.alloc E cur2)
  · rw [hcl]
    simp only [List.length_append, holds, Array.length_toList, Builtin.zeroCells, Array.size_map, Array.size_range, hz]
    rw [← Nat.add_mul, ← Nat.add_mul]
    congr 1
    omega
  · rw [hcl, List.take_append_of_le_length (by omega), List.take_of_length_le (by omega)]
/-- slices.overlaps at two blocks of the call's own -/
theorem ov_overlaps {F : FuncId} {fn : Func} {T R E : TypeId} {x y : Operand} {ats : Array TypeId} {sz : Nat} {a b : Addr} {la ca lb cb : Nat} (hF : P.funcs[F]? = some fn) (hname : (fn.name == "runtime.NumGoroutine") = false) (hb : fn.body.isNone = true) (hnx : Extern.findNext fn = none) (he : Extern.find fn = some (Extern.SlicesOverlaps.overlaps #[T, T] #[R]))
    (hT : P.underlying T = some (.slice E)) (hs : ∀ w, (sizeOf E).run P w = .ok sz w)
    (h : o.op = .call { callee := .value (.func F), args := #[x, y], argTypes := ats }) (hx : ev g x = some (.slice (some a) la ca)) (hy : ev g y = some (.slice (some b) lb cb)) (hne : a.block ≠ b.block)
    (hA : ∀ w, St w0 H0 ms H w → ∃ ra TA, w.heap[a.block]? = some (.cells ra TA (0, 0))) (hB : ∀ w, St w0 H0 ms H w → ∃ rb TB, w.heap[b.block]? = some (.cells rb TB (0, 0)) ∧ rb.size ≠ 0) :
    OV P n o g (St w0 H0 ms H) (.bool false) := fun a' w f s => by
  have e1 := run_callFunc_extern (P := P) hF hname hb hnx he #[.slice (some a) la ca, .slice (some b) lb cb] w
  obtain ⟨ra, TA, sA⟩ := hA w s
  obtain ⟨rb, TB, sB, hkB⟩ := hB w s
  rw [Lib.run_overlaps_apart w T R E hT sz hs a b la ca lb cb hne TA TB ra.size rb.size (by simp [World.shape?, sA]) (by simp [World.shape?, sB]) hkB (by simp [World.frozen?, sA]) (by simp [World.frozen?, sA])] at e1
  simp only [Result.andThen_ok] at e1
  have hf : ev g (Operand.func F) = some (.func (.func F) #[] #[]) := rfl
  simp [execOp, h, resolve, invoke, f.eval hf, Deferred.ofValue, f.eval hx, f.eval hy, e1]
end
end Go.Proofs.YtcgmhlakihjbkaaGreatDoor.W
