/- Our own calculus, eighth part: rows of the call's own whose elements are read and written, appended lists, shifts, indices. A general text: it names no program. -/
import Derived.Test.YtcgmhlakihjbkaaGreatDoorLibF
import Derived.Laws.OwnMore
set_option linter.unusedVariables false
set_option linter.unusedSimpArgs false
namespace Go.Proofs.YtcgmhlakihjbkaaGreatDoor.W
open Go Go.RowKit
section
variable {α : Type} {H : Heap} {E : Enc α} {l : List α} {xs : List Value}
theorem RL.get (h : RL H E l xs) {i : Int} {x : α} (e : at? l i = some x) : 0 ≤ i ∧ i < l.length ∧ i.toNat * E.size + E.size ≤ xs.length ∧ ∃ cs, E.rep H x cs ∧ cs = (xs.drop (i.toNat * E.size)).take E.size := by
  obtain ⟨h0, h1, h2⟩ := at?_some e
  have hi := (List.getElem?_eq_some_iff.1 h2).1
  refine ⟨h0, h1, ?_, _, h.2 _ _ h2, rfl⟩
  rw [h.1, ← Nat.succ_mul]
  exact Nat.mul_le_mul_right _ hi
theorem elem_cell {k m : Nat} {cs : List Value} (hc : cs = (xs.drop k).take m) {off : Nat} {u : Value} (hu : cs[off]? = some u) : xs[k + off]? = some u := by
  subst hc
  rw [List.getElem?_take] at hu
  split at hu
  · rwa [List.getElem?_drop] at hu
  · cases hu
theorem at?_set {i : Int} {x y : α} (e : at? l i = some x) : at? (l.set i.toNat y) i = some y := by
  obtain ⟨h0, h1, h2⟩ := at?_some e
  have hi := (List.getElem?_eq_some_iff.1 h2).1
  unfold at?
  rw [if_pos h0, List.getElem?_set_self hi]
theorem spl_length {cs vs : List Value} {off : Nat} (h : off + vs.length ≤ cs.length) : (spl cs off vs).length = cs.length := by
  simp only [spl, List.length_append, List.length_take, List.length_drop]
  omega
theorem spl_drop_take {cs vs : List Value} {k m off : Nat} (h : off + vs.length ≤ m) (hk : k + m ≤ cs.length) : ((spl cs (k + off) vs).drop k).take m = spl ((cs.drop k).take m) off vs := by
  apply List.ext_getElem?
  intro j
  by_cases hj0 : m ≤ j
  · have hm : ((cs.drop k).take m).length = m := by simp; omega
    rw [List.getElem?_eq_none (by simp; omega), List.getElem?_eq_none (by rw [spl_length (by rw [hm]; exact h), hm]; exact hj0)]
  simp only [spl, List.getElem?_take, List.getElem?_drop, List.getElem?_append, List.length_append, List.length_take, List.length_drop, List.length_append]
  by_cases hj : j < m
  · simp only [hj, if_true]
    by_cases h1 : k + j < k + off
    · have a1 : k + j < min (k + off) cs.length := by omega
      have a2 : j < min off (min m (cs.length - k)) := by omega
      have a3 : k + j < min (k + off) cs.length + vs.length := by omega
      have a4 : j < min off (min m (cs.length - k)) + vs.length := by omega
      have a5 : j < off := by omega
      have a6 : k + j < k + off := h1
      simp [a1, a2, a3, a4, a5, hj]
    · by_cases h2 : j < off + vs.length
      · have a1 : ¬ k + j < min (k + off) cs.length := by omega
        have a2 : ¬ j < min off (min m (cs.length - k)) := by omega
        have a3 : k + j < min (k + off) cs.length + vs.length := by omega
        have a4 : j < min off (min m (cs.length - k)) + vs.length := by omega
        have a5 : k + j - min (k + off) cs.length = j - min off (min m (cs.length - k)) := by omega
        simp [a1, a2, a3, a4, a5]
      · have a1 : ¬ k + j < min (k + off) cs.length := by omega
        have a2 : ¬ j < min off (min m (cs.length - k)) := by omega
        have a3 : ¬ k + j < min (k + off) cs.length + vs.length := by omega
        have a4 : ¬ j < min off (min m (cs.length - k)) + vs.length := by omega
        have a5 : k + off + vs.length + (k + j - (min (k + off) cs.length + vs.length)) = k + j := by omega
        have a6 : off + vs.length + (j - (min off (min m (cs.length - k)) + vs.length)) = j := by omega
        simp [a1, a2, a3, a4, a5, a6, hj]
  · omega
theorem spl_other {cs vs : List Value} {k m k' off : Nat} (h : off + vs.length ≤ m) (hk : k + m ≤ cs.length) (hd : k' + m ≤ k ∨ k + m ≤ k') : ((spl cs (k + off) vs).drop k').take m = (cs.drop k').take m := by
  apply List.ext_getElem?
  intro j
  simp only [spl, List.getElem?_take, List.getElem?_drop, List.getElem?_append, List.length_append, List.length_take, List.length_drop]
  by_cases hj : j < m
  · simp only [hj, if_true]
    rcases hd with hd | hd
    · have a1 : k' + j < min (k + off) cs.length := by omega
      have a2 : k' + j < min (k + off) cs.length + vs.length := by omega
      have a3 : k' + j < k + off := by omega
      simp [a1, a2, a3]
    · have a1 : ¬ k' + j < min (k + off) cs.length + vs.length := by omega
      have a2 : k + off + vs.length + (k' + j - (min (k + off) cs.length + vs.length)) = k' + j := by omega
      simp [a1, a2]
  · simp only [hj, if_false]
theorem RL.set (h : RL H E l xs) {i : Int} {x y : α} {off : Nat} {cs vs : List Value} (e : at? l i = some x) (hc : cs = (xs.drop (i.toNat * E.size)).take E.size) (hy : E.rep H y (spl cs off vs)) (ho : off + vs.length ≤ E.size) :
    RL H E (l.set i.toNat y) (spl xs (i.toNat * E.size + off) vs) := by
  obtain ⟨h0, h1, h2, _⟩ := h.get e
  have hi : i.toNat < l.length := by omega
  refine ⟨by rw [spl_length (by omega), List.length_set, h.1], fun j z hz => ?_⟩
  by_cases hj : i.toNat = j
  · subst hj
    rw [List.getElem?_set_self hi] at hz
    cases hz
    rw [spl_drop_take ho h2, ← hc]
    exact hy
  · rw [List.getElem?_set_ne hj] at hz
    have hjl := (List.getElem?_eq_some_iff.1 hz).1
    rw [spl_other ho h2 ?_]
    · exact h.2 j z hz
    · rcases Nat.lt_or_gt_of_ne hj with hlt | hgt
      · right; rw [← Nat.succ_mul]; exact Nat.mul_le_mul_right _ hlt
      · left; rw [← Nat.succ_mul]; exact Nat.mul_le_mul_right _ hgt
end
section
variable {P : Program} {n : Nat} {o : Oper} {g : Frm} {S : Pred} {w0 : World} {ms : List Ent} {H0 H : Heap}
theorem ov_shr {T T' : TypeId} {x y : Operand} {k k' : IntKind} {i j : Int} (h0 : 0 ≤ j) (h1 : j ≤ k.bits) (h : o.op = .binOp .shr T x y T') (hx : ev g x = some (.int k i)) (hy : ev g y = some (.int k' j)) : OV P n o g S (.int k (i / 2 ^ j.toNat)) := fun a w f _ => by
  simp [execOp, h, f.eval hx, f.eval hy, eqGuard_shr, binOp_shr, shift_shr k k' i j h0 h1]
theorem ov_index_at {T : TypeId} {x y : Operand} {k : IntKind} {i j : Int} {cs : List Value} {r : Value} (hk : i = j) (h : o.op = .index T x y) (hx : ev g x = some (.agg cs.toArray)) (hy : ev g y = some (.int k i)) (hr : ∀ w, (Instr.index T (.agg cs.toArray) (.int k j)).run P w = .ok r w) : OV P n o g S r := fun a w f _ => by
  subst hk
  simp [execOp, h, f.eval hx, f.eval hy, hr]
/-- where a row of the call's own lies, if it has elements -/
theorem own_some {w : World} {base : Nat} {T : TypeId} {sz m cap : Nat} {ao : Option Addr} {xs : List Value} (h : w.ownsRow base T sz (.slice ao m cap) m xs) (hm : 0 < m) : ∃ b cur, ao = some ⟨b, 0, none⟩ ∧ w.heap[b]? = some (.cells cur T (0, 0)) ∧ cur.size = cap * sz ∧ m ≤ cap ∧ cap ≤ maxLen ∧ base ≤ b ∧ cur.toList.take (m * sz) = xs := by
  rcases h.2 with ⟨e, rfl⟩ | ⟨b, c, cur, e, hb, hg, h1, h2, h3, h4⟩
  · omega
  · injection e with e1 e2 e3
    subst e1
    subst e3
    exact ⟨b, cur, rfl, hg, h3, h1, h2, hb, h4⟩
theorem ov_indexAddr_own {T E : TypeId} {x y : Operand} {i c m s : Nat} {ao : Option Addr} {kk : IntKind} {j : Int} {xs : List Value} (hT : P.underlying T = some (.slice E)) (hs : ∀ w, (sizeOf E).run P w = .ok s w) (h : o.op = .indexAddr T x y) (hx : ev g x = some (.slice ao m c)) (hy : ev g y = some (.int kk j)) (hi : ms[i]? = some (.row E s m (.slice ao m c) xs)) (h0 : 0 ≤ j) (h1 : j < m) :
    OV P n o g (St w0 H0 ms H) (pE ao (j.toNat * s)) := fun a w f st => by
  obtain ⟨b, cur, rfl, _⟩ := own_some (st.sat _ (List.mem_of_getElem? hi)) (by omega)
  exact ov_indexAddr (S := fun _ => True) hT hs h hx hy h0 h1 ⟨_, rfl⟩ a w f trivial
theorem ov_load_own {T T' : TypeId} {x : Operand} {i c m s k : Nat} {ao : Option Addr} {v : Value} {xs : List Value} (hA : ∀ w, (isAgg T).run P w = .ok false w) (h : o.op = .load T x) (hx : ev g x = some (pE ao k)) (hi : ms[i]? = some (.row T' s m (.slice ao m c) xs)) (hm : 0 < m) (hv : xs[k]? = some v) :
    OV P n o g (St w0 H0 ms H) v := fun a w f st => by
  have hs := st.sat _ (List.mem_of_getElem? hi)
  obtain ⟨b, cur, rfl, _⟩ := own_some hs hm
  have hc := World.ownsRow.cells (g := b) hs rfl k v hv
  have hp : pE (some ⟨b, 0, none⟩) k = .pointer (some ((⟨b, 0, none⟩ : Addr).add k)) := rfl
  rw [hp] at hx
  simp [execOp, h, f.eval hx, Instr.loadAt, Instr.sureAddr, loadVar, hA, hc]
theorem os_store_own {T T' : TypeId} {x y : Operand} {i c m s k sz : Nat} {ao : Option Addr} {v : Value} {vs xs : List Value} {K : Value → Pred → Prop} (hS : ∀ w, (sizeOf T).run P w = .ok sz w) (h : o.op = .store T x y) (hx : ev g x = some (pE ao k)) (hy : ev g y = some v)
    (hi : ms[i]? = some (.row T' s m (.slice ao m c) xs)) (hm : 0 < m) (hv : v.cells = vs.toArray) (hl : vs.length = sz) (hle : k + vs.length ≤ xs.length) (h1 : vs.all (·.oneCell') = true) (kk : K undef (St w0 H0 (ms.set i (.row T' s m (.slice ao m c) (spl xs k vs))) H)) : OS P n o g (St w0 H0 ms H) K := fun a w f st next Q hn => by
  have hs := st.sat _ (List.mem_of_getElem? hi)
  obtain ⟨b, cur, rfl, hg, h3, h4, h5, h6, h7⟩ := own_some hs hm
  have hxl : xs.length = m * s := hs.1
  have hms : m * s ≤ c * s := Nat.mul_le_mul_right _ h4
  have hsz : k + vs.length ≤ cur.size := by rw [h3]; omega
  have hst := run_storeCells_at P b k T' vs 0 cur w hg (by simpa using hsz) (by simpa [List.all_eq_true] using h1)
  simp only [Nat.add_zero] at hst
  have hp : pE (some ⟨b, 0, none⟩) k = pB b k := by
    show Value.pointer (some ((⟨b, 0, none⟩ : Addr).add k)) = pB b k
    rw [addr_add, Nat.zero_add]
    rfl
  rw [hp] at hx
  subst hl
  have hr : (execOp a.eval o).run P w = .ok .skip (w.setRow b (cur.toList.take k ++ vs ++ cur.toList.drop (k + vs.length)).toArray) := by
    simp [execOp, h, f.eval hx, f.eval hy, pB, Instr.storeAt, Instr.sureAddr, storeVar, hS, hv]
    simpa using congrArg (fun r => r.andThen fun _ w' => Result.ok Next.skip w') hst
  unfold Oper.wp
  rw [hr]
  refine hn _ _ _ kk (st.turn hi (grownBy_setRow w b _) ?_ (fun c hc => .inl hc))
  refine ⟨by rw [spl_length hle]; exact hxl, .inr ⟨b, c, _, rfl, h6, setRow_heap w b cur _ T' _ hg, h4, h5, ?_, ?_⟩⟩
  · have hcl : cur.toList.length = cur.size := Array.length_toList
    simp only [List.size_toArray, List.length_append, List.length_take, List.length_drop]
    omega
  · have hcl : cur.toList.length = cur.size := Array.length_toList
    subst h7
    show List.take (m * s) (spl cur.toList k vs) = spl (cur.toList.take (m * s)) k vs
    have := spl_drop_take (cs := cur.toList) (vs := vs) (k := 0) (m := m * s) (off := k) (by simp only [List.length_take] at hle; omega) (by omega)
    simpa using this
theorem own_pos {i : Int} {m : Nat} (h0 : 0 ≤ i) (h1 : i < m) : 0 < m := by omega
theorem elem_le {b m off len L : Nat} (hk : b + m ≤ L) (ho : off + len ≤ m) : b + off + len ≤ L := by omega
theorem SL.sub {α : Type} {E : Enc α} {ao : Option Addr} {l r : List α} (h : SL H E ao (l ++ r)) : SL H E ao l := fun i x e => h i x (by rw [List.getElem?_append_left (List.getElem?_eq_some_iff.1 e).1]; exact e)
/-- the cells of a list -/
theorem SL.cells {α : Type} {E : Enc α} {ao : Option Addr} : ∀ l : List α, SL H E ao l → ∃ ys, RL H E l ys ∧ RowAt H ao 0 ys := by
  have key : ∀ r : List α, SL H E ao r.reverse → ∃ ys, RL H E r.reverse ys ∧ RowAt H ao 0 ys := fun r => by
    induction r with
    | nil => exact fun _ => ⟨[], RL.nil _ _, fun j u e => by simp at e⟩
    | cons x r ih =>
      intro h
      rw [List.reverse_cons] at h ⊢
      obtain ⟨ys, h1, h2⟩ := ih h.sub
      obtain ⟨cs, h3, h4⟩ := h r.reverse.length x (by simp)
      refine ⟨ys ++ cs, h1.append (RL.one h3), fun j u e => ?_⟩
      rw [List.getElem?_append] at e
      split at e
      · exact h2 j u e
      · rename_i hlt
        obtain ⟨a, e1, e2⟩ := h4 _ u e
        refine ⟨a, e1, ?_⟩
        rw [Nat.zero_add]
        have : r.reverse.length * E.size + (j - ys.length) = j := by rw [← h1.1]; omega
        rw [this] at e2
        exact e2
  intro l h
  have := key l.reverse (by rw [List.reverse_reverse]; exact h)
  rwa [List.reverse_reverse] at this
theorem append_none {P : Program} {w : World} (base : Nat) (t ty e : TypeId) (i : TypeInfo) (size c : Nat) (ht : P.underlying t = some (.slice e)) (hi : P.info? e = some i) (v : Value) (n : Nat) (xs : List Value) (hown : w.ownsRow base e size v n xs) :
    (Builtin.append_ #[t, t] ty #[v, .slice none 0 c]).run P w = .ok v w := by
  rcases hown.2 with ⟨rfl, rfl⟩ | ⟨g, cap, cur, rfl, _, _, hnc, _⟩
  · simp [Builtin.append_, run_underlying ht, sizeOf, typeInfo, hi, Builtin.lenOf, Builtin.firstCells]
  · simp [Builtin.append_, run_underlying ht, sizeOf, typeInfo, hi, Builtin.lenOf, Builtin.firstCells, hnc, storeCells]
/-- append of a list that is held to a row of the call's own -/
theorem os_app_sl {α : Type} {En : Enc α} {l r x : List α} {T E : TypeId} {p q : Operand} {i c bytes : Nat} {z v : Value} {ao2 : Option Addr} {xs : List Value} {K : Value → Pred → Prop} (hT : P.underlying T = some (.slice E)) (hI : (P.info? E).map (fun i => (i.zero, i.size, i.bytes)) = some (some z, En.size, bytes)) (hz : z.cells.size = En.size) (hsz : 0 < En.size)
    (hone : ∀ H x cs, En.rep H x cs → cs.all (·.oneCell') = true)
    (h : o.op = .call { callee := .builtin .append, args := #[p, q], argTypes := #[T, T] }) (hx : ev g p = some v) (hy : ev g q = some (.slice ao2 r.length c)) (hi : ms[i]? = some (.row E En.size l.length v xs)) (hR' : SL H En ao2 r) (hc : r.length ≤ c)
    (hR : RL H En l xs) (hm : appO bytes l r = some x)
    (kk : ∀ ao cap ys, RL H En (l ++ r) (xs ++ ys) → K (.slice ao (l ++ r).length cap) (St w0 H0 (ms.set i (.row E En.size (l ++ r).length (.slice ao (l ++ r).length cap) (xs ++ ys))) H)) : OS P n o g (St w0 H0 ms H) K := fun a w f s next Q hn => by
  obtain ⟨i0, hi0, hz0, hz1, hz2⟩ := info_parts hI
  have si := s.sat _ (List.mem_of_getElem? hi)
  obtain ⟨ys, hys, hrow⟩ := SL.cells r hR'
  have hone' : ∀ u ∈ ys, u.oneCell' = true := fun u hu => by
    obtain ⟨t, ht⟩ := List.getElem?_of_mem hu
    have hlt := (List.getElem?_eq_some_iff.1 ht).1
    have hq : t / En.size < r.length := by
      rw [Nat.div_lt_iff_lt_mul hsz, ← hys.1]
      exact hlt
    have h2 := hys.2 (t / En.size) _ (List.getElem?_eq_getElem hq)
    have h3 := List.all_eq_true.1 (hone _ _ _ h2) u
    apply h3
    refine List.mem_iff_getElem?.2 ⟨t % En.size, ?_⟩
    rw [List.getElem?_take, if_pos (Nat.mod_lt _ hsz), List.getElem?_drop]
    have : t / En.size * En.size + t % En.size = t := by rw [Nat.mul_comm]; exact Nat.div_add_mod t _
    rw [this]
    exact ht
  cases ao2 with
  | none =>
    have hr0 : r = [] := by
      cases r with
      | nil => rfl
      | cons y r =>
        obtain ⟨cs, h3, h4⟩ := hR' 0 y rfl
        obtain ⟨a', e⟩ := h4.addr (by intro e; have := En.len h3; rw [e] at this; simp at this; omega)
        cases e
    subst hr0
    have hy0 : ys = [] := List.eq_nil_of_length_eq_zero (by rw [hys.1]; simp)
    have hr' : (execOp a.eval o).run P w = .ok (.value v) w := by
      have := append_none (P := P) (w := w) w0.heap.size T o.type E i0 i0.size c hT hi0 v _ _ (by rw [hz1]; exact si)
      simp [execOp, h, resolve, invoke, builtin, f.eval hx, f.eval hy, this]
    unfold Oper.wp
    rw [hr']
    have hv : ∃ ao cap, v = .slice ao l.length cap := by
      rcases si.2 with ⟨e1, e2⟩ | ⟨b', c', _, e1, _⟩
      · exact ⟨none, 0, by rw [e1, e2]⟩
      · exact ⟨_, c', e1⟩
    obtain ⟨ao, cap, rfl⟩ := hv
    have k1 := kk ao cap ys (hR.append hys)
    subst hy0
    simp only [List.append_nil] at k1
    refine hn _ _ _ k1 ?_
    have hset : ms.set i (.row E En.size l.length (.slice ao l.length cap) xs) = ms := by
      obtain ⟨hlt, he⟩ := List.getElem?_eq_some_iff.1 hi
      rw [← he]
      exact List.set_getElem_self ..
    rw [hset]
    exact s
  | some ad =>
    have hcell : ∀ t u, ys[t]? = some u → w.cell? (ad.add t) = some u := fun t u e => by
      obtain ⟨a', e1, e2⟩ := hrow t u e
      cases e1
      rw [Nat.zero_add] at e2
      exact cellH_world s.hold e2
    obtain ⟨v', w', hr, hown, hgr, hnil'⟩ := run_append_own (P := P) w w0.heap.size T o.type E i0 z En.size bytes hT hi0 hz0 hz1 hz2 hz hsz v _ xs si ad r.length c ys hys.1 hcell hone' (appO_some hm).1.2 (appO_some hm).1.1 s.below.size
    have hr' : (execOp a.eval o).run P w = .ok (.value v') w' := by
      simp [execOp, h, resolve, invoke, builtin, f.eval hx, f.eval hy, hr]
    unfold Oper.wp
    rw [hr']
    have hv : ∃ ao cap, v' = .slice ao (l ++ r).length cap := by
      rw [List.length_append]
      rcases hown.2 with ⟨e1, e2⟩ | ⟨b', c', _, e1, _⟩
      · exact ⟨none, 0, by rw [e1, e2]⟩
      · exact ⟨_, c', e1⟩
    obtain ⟨ao, cap, rfl⟩ := hv
    rw [← List.length_append] at hown
    refine hn _ _ _ (kk ao cap ys (hR.append hys)) (s.turn hi hgr hown ?_)
    exact append_block (P := P) (w := w) (base := w0.heap.size) (c := c) hT hi0 hz0 (by rw [hz1]; exact si) (by rw [hz1]; exact hys.1) hcell hone' (appO_some hm).1.2 (by rw [hz2]; exact (appO_some hm).1.1) hnil' hr
end
theorem one_encBool : ∀ H x cs, encBool.rep H x cs → cs.all (·.oneCell') = true := fun _ _ _ h => by cases h; rfl
end Go.Proofs.YtcgmhlakihjbkaaGreatDoor.W
