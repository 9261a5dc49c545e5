import Derived.Test.YtkgijoddkibapaaGreatDoorLibF
import Derived.Laws.OwnMore
import Derived.Lib.SliceRun
import Derived.Lib.Overlaps
import Derived.Lib.AppendZerosOnto
import Derived.Laws.Externs
import Derived.Lib.AppendStr
import Derived.Lib.Builder
import Derived.Laws.BytesArg
import Derived.OrdersIn
import Derived.Laws.MakeOwn
import Derived.Laws.RangeAny
import Derived.Lib.OthersKept
set_option linter.unusedVariables false
set_option linter.unusedSimpArgs false
set_option linter.unusedSectionVars false
namespace Go.Proofs.YtkgijoddkibapaaGreatDoor.W
open Go Go.RowKit
section
variable {α : Type} {H : Heap} {E : Enc α} {l : List α} {xs : List Value}
theorem RL.get (h : RL H E l xs) {i : Int} {x : α} (e : at? l i = some x) : 0 ≤ i ∧ i < l.length ∧ i.toNat * E.size + E.size ≤ xs.length ∧ ∃ cs, E.rep H x cs ∧ cs = (xs.drop (i.toNat * E.size)).take E.size := by
 obtain ⟨h0, h1, h2⟩ := at?_some e
 have hi := (List.getElem?_eq_some_iff.1 h2).1
 refine ⟨h0, h1, ?_, _, h.2 _ _ h2, rfl⟩
 rw [h.1, ← Nat.succ_mul]
 exact Nat.mul_le_mul_right _ hi
theorem elem_cell {k m : Nat} {cs : List Value} (hc : cs = (xs.drop k).take m) {off : Nat} {u : Value} (hu : cs[off]? = some u) : xs[k + off]? = some u := by
 subst hc
 rw [List.getElem?_take] at hu
 split at hu
 · rwa [List.getElem?_drop] at hu
 · cases hu
theorem at?_set {i : Int} {x y : α} (e : at? l i = some x) : at? (l.set i.toNat y) i = some y := by
 obtain ⟨h0, h1, h2⟩ := at?_some e
 have hi := (List.getElem?_eq_some_iff.1 h2).1
 unfold at?
 rw [if_pos h0, List.getElem?_set_self hi]
theorem spl_length {cs vs : List Value} {off : Nat} (h : off + vs.length ≤ cs.length) : (spl cs off vs).length = cs.length := by
 simp only [spl, List.length_append, List.length_take, List.length_drop]
 omega
theorem spl_drop_take {cs vs : List Value} {k m off : Nat} (h : off + vs.length ≤ m) (hk : k + m ≤ cs.length) : ((spl cs (k + off) vs).drop k).take m = spl ((cs.drop k).take m) off vs := by
 apply List.ext_getElem?
 intro j
 by_cases hj0 : m ≤ j
 · have hm : ((cs.drop k).take m).length = m := by simp; omega
   rw [List.getElem?_eq_none (by simp; omega), List.getElem?_eq_none (by rw [spl_length (by rw [hm]; exact h), hm]; exact hj0)]
 simp only [spl, List.getElem?_take, List.getElem?_drop, List.getElem?_append, List.length_append, List.length_take, List.length_drop, List.length_append]
 by_cases hj : j < m
 · simp only [hj, if_true]
   by_cases h1 : k + j < k + off
   · have a1 : k + j < min (k + off) cs.length := by omega
     have a2 : j < min off (min m (cs.length - k)) := by omega
     have a3 : k + j < min (k + off) cs.length + vs.length := by omega
     have a4 : j < min off (min m (cs.length - k)) + vs.length := by omega
     have a5 : j < off := by omega
     have a6 : k + j < k + off := h1
     simp [a1, a2, a3, a4, a5, hj]
   · by_cases h2 : j < off + vs.length
     · have a1 : ¬ k + j < min (k + off) cs.length := by omega
       have a2 : ¬ j < min off (min m (cs.length - k)) := by omega
       have a3 : k + j < min (k + off) cs.length + vs.length := by omega
       have a4 : j < min off (min m (cs.length - k)) + vs.length := by omega
       have a5 : k + j - min (k + off) cs.length = j - min off (min m (cs.length - k)) := by omega
       simp [a1, a2, a3, a4, a5]
     · have a1 : ¬ k + j < min (k + off) cs.length := by omega
       have a2 : ¬ j < min off (min m (cs.length - k)) := by omega
       have a3 : ¬ k + j < min (k + off) cs.length + vs.length := by omega
       have a4 : ¬ j < min off (min m (cs.length - k)) + vs.length := by omega
       have a5 : k + off + vs.length + (k + j - (min (k + off) cs.length + vs.length)) = k + j := by omega
       have a6 : off + vs.length + (j - (min off (min m (cs.length - k)) + vs.length)) = j := by omega
       simp [a1, a2, a3, a4, a5, a6, hj]
 · omega
theorem spl_other {cs vs : List Value} {k m k' off : Nat} (h : off + vs.length ≤ m) (hk : k + m ≤ cs.length) (hd : k' + m ≤ k ∨ k + m ≤ k') : ((spl cs (k + off) vs).drop k').take m = (cs.drop k').take m := by
 apply List.ext_getElem?
 intro j
 simp only [spl, List.getElem?_take, List.getElem?_drop, List.getElem?_append, List.length_append, List.length_take, List.length_drop]
 by_cases hj : j < m
 · simp only [hj, if_true]
   rcases hd with hd | hd
   · have a1 : k' + j < min (k + off) cs.length := by omega
     have a2 : k' + j < min (k + off) cs.length + vs.length := by omega
     have a3 : k' + j < k + off := by omega
     simp [a1, a2, a3]
   · have a1 : ¬ k' + j < min (k + off) cs.length + vs.length := by omega
     have a2 : k + off + vs.length + (k' + j - (min (k + off) cs.length + vs.length)) = k' + j := by omega
     simp [a1, a2]
 · simp only [hj, if_false]
theorem RL.set (h : RL H E l xs) {i : Int} {x y : α} {off : Nat} {cs vs : List Value} (e : at? l i = some x) (hc : cs = (xs.drop (i.toNat * E.size)).take E.size) (hy : E.rep H y (spl cs off vs)) (ho : off + vs.length ≤ E.size) :
 RL H E (l.set i.toNat y) (spl xs (i.toNat * E.size + off) vs) := by
 obtain ⟨h0, h1, h2, _⟩ := h.get e
 have hi : i.toNat < l.length := by omega
 refine ⟨by rw [spl_length (by omega), List.length_set, h.1], fun j z hz => ?_⟩
 by_cases hj : i.toNat = j
 · subst hj
   rw [List.getElem?_set_self hi] at hz
   cases hz
   rw [spl_drop_take ho h2, ← hc]
   exact hy
 · rw [List.getElem?_set_ne hj] at hz
   have hjl := (List.getElem?_eq_some_iff.1 hz).1
   rw [spl_other ho h2 ?_]
   · exact h.2 j z hz
   · rcases Nat.lt_or_gt_of_ne hj with hlt | hgt
     · right; rw [← Nat.succ_mul]; exact Nat.mul_le_mul_right _ hlt
     · left; rw [← Nat.succ_mul]; exact Nat.mul_le_mul_right _ hgt
end
section
variable {P : Program} {n : Nat} {o : Oper} {g : Frm} {S : Pred} {w0 : World} {ms : List Ent} {H0 H : Heap}
theorem ov_index_at {T : TypeId} {x y : Operand} {k : IntKind} {i j : Int} {cs : List Value} {r : Value} (hk : i = j) (h : o.op = .index T x y) (hx : ev g x = some (.agg cs.toArray)) (hy : ev g y = some (.int k i)) (hr : ∀ w, (Instr.index T (.agg cs.toArray) (.int k j)).run P w = .ok r w) : OV P n o g S r := fun a w f _ => by
 subst hk
 simp [execOp, h, f.eval hx, f.eval hy, hr]
theorem own_some {w : World} {base : Nat} {T : TypeId} {sz m cap : Nat} {ao : Option Addr} {xs : List Value} (h : w.ownsRow base T sz (.slice ao m cap) m xs) (hm : 0 < m) : ∃ b cur, ao = some ⟨b, 0, none⟩ ∧ w.heap[b]? = some (.cells cur T (0, 0)) ∧ cur.size = cap * sz ∧ m ≤ cap ∧ cap ≤ maxLen ∧ base ≤ b ∧ cur.toList.take (m * sz) = xs := by
 rcases h.2 with ⟨e, rfl⟩ | ⟨b, c, cur, e, hb, hg, h1, h2, h3, h4⟩
 · omega
 · injection e with e1 e2 e3
   subst e1
   subst e3
   exact ⟨b, cur, rfl, hg, h3, h1, h2, hb, h4⟩
theorem ov_indexAddr_own {T E : TypeId} {x y : Operand} {i c m s : Nat} {ao : Option Addr} {kk : IntKind} {j : Int} {xs : List Value} (hT : P.underlying T = some (.slice E)) (hs : ∀ w, (sizeOf E).run P w = .ok s w) (h : o.op = .indexAddr T x y) (hx : ev g x = some (.slice ao m c)) (hy : ev g y = some (.int kk j)) (hi : ms[i]? = some (.row E s m (.slice ao m c) xs)) (h0 : 0 ≤ j) (h1 : j < m) :
 OV P n o g (St w0 H0 ms H) (pE ao (j.toNat * s)) := fun a w f st => by
 obtain ⟨b, cur, rfl, _⟩ := own_some (st.sat _ (List.mem_of_getElem? hi)) (by omega)
 exact ov_indexAddr (S := fun _ => True) hT hs h hx hy h0 h1 ⟨_, rfl⟩ a w f trivial
theorem ov_load_own {T T' : TypeId} {x : Operand} {i c m s k : Nat} {ao : Option Addr} {v : Value} {xs : List Value} (hA : ∀ w, (isAgg T).run P w = .ok false w) (h : o.op = .load T x) (hx : ev g x = some (pE ao k)) (hi : ms[i]? = some (.row T' s m (.slice ao m c) xs)) (hm : 0 < m) (hv : xs[k]? = some v) :
 OV P n o g (St w0 H0 ms H) v := fun a w f st => by
 have hs := st.sat _ (List.mem_of_getElem? hi)
 obtain ⟨b, cur, rfl, _⟩ := own_some hs hm
 have hc := World.ownsRow.cells (g := b) hs rfl k v hv
 have hp : pE (some ⟨b, 0, none⟩) k = .pointer (some ((⟨b, 0, none⟩ : Addr).add k)) := rfl
 rw [hp] at hx
 simp [execOp, h, f.eval hx, Instr.loadAt, Instr.sureAddr, loadVar, hA, hc]
theorem ov_load_owns {T T' : TypeId} {x : Operand} {i c m s k sz : Nat} {ao : Option Addr} {vs : List Value} {xs : List Value} (hA : ∀ w, (isAgg T).run P w = .ok true w) (hS : ∀ w, (sizeOf T).run P w = .ok sz w) (h : o.op = .load T x) (hx : ev g x = some (pE ao k)) (hi : ms[i]? = some (.row T' s m (.slice ao m c) xs)) (hm : 0 < m) (hl : vs.length = sz) (hv : ∀ j u, vs[j]? = some u → xs[k + j]? = some u) :
 OV P n o g (St w0 H0 ms H) (.agg vs.toArray) := fun a w f st => by
 have hs := st.sat _ (List.mem_of_getElem? hi)
 obtain ⟨b, cur, rfl, _⟩ := own_some hs hm
 have hc : ∀ j u, vs[j]? = some u → w.cell? (((⟨b, 0, none⟩ : Addr).add k).add j) = some u := fun j u e => by
  rw [add_add]
  exact World.ownsRow.cells (g := b) hs rfl _ u (hv j u e)
 have hl' := run_loadCells_list (P := P) (w := w) ((⟨b, 0, none⟩ : Addr).add k) vs hc
 subst hl
 have hp : pE (some ⟨b, 0, none⟩) k = .pointer (some ((⟨b, 0, none⟩ : Addr).add k)) := rfl
 rw [hp] at hx
 simp [execOp, h, f.eval hx, Instr.loadAt, Instr.sureAddr, loadVar, hA, hS, hl']
theorem os_store_own {T T' : TypeId} {x y : Operand} {i c m s k sz : Nat} {ao : Option Addr} {v : Value} {vs xs : List Value} {K : Value → Pred → Prop} (hS : ∀ w, (sizeOf T).run P w = .ok sz w) (h : o.op = .store T x y) (hx : ev g x = some (pE ao k)) (hy : ev g y = some v)
 (hi : ms[i]? = some (.row T' s m (.slice ao m c) xs)) (hm : 0 < m) (hv : v.cells = vs.toArray) (hl : vs.length = sz) (hle : k + vs.length ≤ xs.length) (h1 : vs.all (·.oneCell') = true) (kk : K undef (St w0 H0 (ms.set i (.row T' s m (.slice ao m c) (spl xs k vs))) H)) : OS P n o g (St w0 H0 ms H) K := fun a w f st next Q hn => by
 have hs := st.sat _ (List.mem_of_getElem? hi)
 obtain ⟨b, cur, rfl, hg, h3, h4, h5, h6, h7⟩ := own_some hs hm
 have hxl : xs.length = m * s := hs.1
 have hms : m * s ≤ c * s := Nat.mul_le_mul_right _ h4
 have hsz : k + vs.length ≤ cur.size := by rw [h3]; omega
 have hst := run_storeCells_at P b k T' vs 0 cur w hg (by simpa using hsz) (by simpa [List.all_eq_true] using h1)
 simp only [Nat.add_zero] at hst
 have hp : pE (some ⟨b, 0, none⟩) k = pB b k := by
  show Value.pointer (some ((⟨b, 0, none⟩ : Addr).add k)) = pB b k
  rw [addr_add, Nat.zero_add]
  rfl
 rw [hp] at hx
 subst hl
 have hr : (execOp a.eval o).run P w = .ok .skip (w.setRow b (cur.toList.take k ++ vs ++ cur.toList.drop (k + vs.length)).toArray) := by
  simp [execOp, h, f.eval hx, f.eval hy, pB, Instr.storeAt, Instr.sureAddr, storeVar, hS, hv]
  simpa using congrArg (fun r => r.andThen fun _ w' => Result.ok Next.skip w') hst
 unfold Oper.wp
 rw [hr]
 refine hn _ _ _ kk (st.turn hi (grownBy_setRow w b _) ?_ (fun c hc => .inl hc))
 refine ⟨by rw [spl_length hle]; exact hxl, .inr ⟨b, c, _, rfl, h6, setRow_heap w b cur _ T' _ hg, h4, h5, ?_, ?_⟩⟩
 · have hcl : cur.toList.length = cur.size := Array.length_toList
   simp only [List.size_toArray, List.length_append, List.length_take, List.length_drop]
   omega
 · have hcl : cur.toList.length = cur.size := Array.length_toList
   subst h7
   show List.take (m * s) (spl cur.toList k vs) = spl (cur.toList.take (m * s)) k vs
   have := spl_drop_take (cs := cur.toList) (vs := vs) (k := 0) (m := m * s) (off := k) (by simp only [List.length_take] at hle; omega) (by omega)
   simpa using this
theorem own_pos {i : Int} {m : Nat} (h0 : 0 ≤ i) (h1 : i < m) : 0 < m := by omega
theorem elem_le {b m off len L : Nat} (hk : b + m ≤ L) (ho : off + len ≤ m) : b + off + len ≤ L := by omega
theorem SL.sub {α : Type} {E : Enc α} {ao : Option Addr} {l r : List α} (h : SL H E ao (l ++ r)) : SL H E ao l := fun i x e => h i x (by rw [List.getElem?_append_left (List.getElem?_eq_some_iff.1 e).1]; exact e)
theorem SL.cells {α : Type} {E : Enc α} {ao : Option Addr} : ∀ l : List α, SL H E ao l → ∃ ys, RL H E l ys ∧ RowAt H ao 0 ys := by
 have key : ∀ r : List α, SL H E ao r.reverse → ∃ ys, RL H E r.reverse ys ∧ RowAt H ao 0 ys := fun r => by
  induction r with
  | nil => exact fun _ => ⟨[], RL.nil _ _, fun j u e => by simp at e⟩
  | cons x r ih =>
   intro h
   rw [List.reverse_cons] at h ⊢
   obtain ⟨ys, h1, h2⟩ := ih h.sub
   obtain ⟨cs, h3, h4⟩ := h r.reverse.length x (by simp)
   refine ⟨ys ++ cs, h1.append (RL.one h3), fun j u e => ?_⟩
   rw [List.getElem?_append] at e
   split at e
   · exact h2 j u e
   · rename_i hlt
     obtain ⟨a, e1, e2⟩ := h4 _ u e
     refine ⟨a, e1, ?_⟩
     rw [Nat.zero_add]
     have : r.reverse.length * E.size + (j - ys.length) = j := by rw [← h1.1]; omega
     rw [this] at e2
     exact e2
 intro l h
 have := key l.reverse (by rw [List.reverse_reverse]; exact h)
 rwa [List.reverse_reverse] at this
theorem append_none {P : Program} {w : World} (base : Nat) (t ty e : TypeId) (i : TypeInfo) (size c : Nat) (ht : P.underlying t = some (.slice e)) (hi : P.info? e = some i) (v : Value) (n : Nat) (xs : List Value) (hown : w.ownsRow base e size v n xs) :
 (Builtin.append_ #[t, t] ty #[v, .slice none 0 c]).run P w = .ok v w := by
 rcases hown.2 with ⟨rfl, rfl⟩ | ⟨g, cap, cur, rfl, _, _, hnc, _⟩
 · simp [Builtin.append_, run_underlying ht, sizeOf, typeInfo, hi, Builtin.lenOf, Builtin.firstCells]
 · simp [Builtin.append_, run_underlying ht, sizeOf, typeInfo, hi, Builtin.lenOf, Builtin.firstCells, hnc, storeCells]
theorem os_app_sl {α : Type} {En : Enc α} {l r x : List α} {T E : TypeId} {p q : Operand} {i c bytes : Nat} {z v : Value} {ao2 : Option Addr} {xs : List Value} {K : Value → Pred → Prop} (hT : P.underlying T = some (.slice E)) (hI : (P.info? E).map (fun i => (i.zero, i.size, i.bytes)) = some (some z, En.size, bytes)) (hz : z.cells.size = En.size) (hsz : 0 < En.size)
 (hone : ∀ H x cs, En.rep H x cs → cs.all (·.oneCell') = true)
 (h : o.op = .call { callee := .builtin .append, args := #[p, q], argTypes := #[T, T] }) (hx : ev g p = some v) (hy : ev g q = some (.slice ao2 r.length c)) (hi : ms[i]? = some (.row E En.size l.length v xs)) (hR' : SL H En ao2 r) (hc : r.length ≤ c)
 (hR : RL H En l xs) (hm : appO bytes l r = some x)
 (kk : ∀ ao cap ys, RL H En (l ++ r) (xs ++ ys) → K (.slice ao (l ++ r).length cap) (St w0 H0 (ms.set i (.row E En.size (l ++ r).length (.slice ao (l ++ r).length cap) (xs ++ ys))) H)) : OS P n o g (St w0 H0 ms H) K := fun a w f s next Q hn => by
 obtain ⟨i0, hi0, hz0, hz1, hz2⟩ := info_parts hI
 have si := s.sat _ (List.mem_of_getElem? hi)
 obtain ⟨ys, hys, hrow⟩ := SL.cells r hR'
 have hone' : ∀ u ∈ ys, u.oneCell' = true := fun u hu => by
  obtain ⟨t, ht⟩ := List.getElem?_of_mem hu
  have hlt := (List.getElem?_eq_some_iff.1 ht).1
  have hq : t / En.size < r.length := by
   rw [Nat.div_lt_iff_lt_mul hsz, ← hys.1]
   exact hlt
  have h2 := hys.2 (t / En.size) _ (List.getElem?_eq_getElem hq)
  have h3 := List.all_eq_true.1 (hone _ _ _ h2) u
  apply h3
  refine List.mem_iff_getElem?.2 ⟨t % En.size, ?_⟩
  rw [List.getElem?_take, if_pos (Nat.mod_lt _ hsz), List.getElem?_drop]
  have : t / En.size * En.size + t % En.size = t := by rw [Nat.mul_comm]; exact Nat.div_add_mod t _
  rw [this]
  exact ht
 cases ao2 with
 | none =>
  have hr0 : r = [] := by
   cases r with
   | nil => rfl
   | cons y r =>
    obtain ⟨cs, h3, h4⟩ := hR' 0 y rfl
    obtain ⟨a', e⟩ := h4.addr (by intro e; have := En.len h3; rw [e] at this; simp at this; omega)
    cases e
  subst hr0
  have hy0 : ys = [] := List.eq_nil_of_length_eq_zero (by rw [hys.1]; simp)
  have hr' : (execOp a.eval o).run P w = .ok (.value v) w := by
   have := append_none (P := P) (w := w) w0.heap.size T o.type E i0 i0.size c hT hi0 v _ _ (by rw [hz1]; exact si)
   simp [execOp, h, resolve, invoke, builtin, f.eval hx, f.eval hy, this]
  unfold Oper.wp
  rw [hr']
  have hv : ∃ ao cap, v = .slice ao l.length cap := by
   rcases si.2 with ⟨e1, e2⟩ | ⟨b', c', _, e1, _⟩
   · exact ⟨none, 0, by rw [e1, e2]⟩
   · exact ⟨_, c', e1⟩
  obtain ⟨ao, cap, rfl⟩ := hv
  have k1 := kk ao cap ys (hR.append hys)
  subst hy0
  simp only [List.append_nil] at k1
  refine hn _ _ _ k1 ?_
  have hset : ms.set i (.row E En.size l.length (.slice ao l.length cap) xs) = ms := by
   obtain ⟨hlt, he⟩ := List.getElem?_eq_some_iff.1 hi
   rw [← he]
   exact List.set_getElem_self ..
  rw [hset]
  exact s
 | some ad =>
  have hcell : ∀ t u, ys[t]? = some u → w.cell? (ad.add t) = some u := fun t u e => by
   obtain ⟨a', e1, e2⟩ := hrow t u e
   cases e1
   rw [Nat.zero_add] at e2
   exact cellH_world s.hold e2
  obtain ⟨v', w', hr, hown, hgr, hnil'⟩ := run_append_own (P := P) w w0.heap.size T o.type E i0 z En.size bytes hT hi0 hz0 hz1 hz2 hz hsz v _ xs si ad r.length c ys hys.1 hcell hone' (appO_some hm).1.2 (appO_some hm).1.1 s.below.size
  have hr' : (execOp a.eval o).run P w = .ok (.value v') w' := by
   simp [execOp, h, resolve, invoke, builtin, f.eval hx, f.eval hy, hr]
  unfold Oper.wp
  rw [hr']
  have hv : ∃ ao cap, v' = .slice ao (l ++ r).length cap := by
   rw [List.length_append]
   rcases hown.2 with ⟨e1, e2⟩ | ⟨b', c', _, e1, _⟩
   · exact ⟨none, 0, by rw [e1, e2]⟩
   · exact ⟨_, c', e1⟩
  obtain ⟨ao, cap, rfl⟩ := hv
  rw [← List.length_append] at hown
  refine hn _ _ _ (kk ao cap ys (hR.append hys)) (s.turn hi hgr hown ?_)
  exact append_block (P := P) (w := w) (base := w0.heap.size) (c := c) hT hi0 hz0 (by rw [hz1]; exact si) (by rw [hz1]; exact hys.1) hcell hone' (appO_some hm).1.2 (by rw [hz2]; exact (appO_some hm).1.1) hnil' hr
end
theorem one_encBool : ∀ H x cs, encBool.rep H x cs → cs.all (·.oneCell') = true := fun _ _ _ h => by cases h; rfl
section
variable {P : Program} {n : Nat} {o : Oper} {g : Frm} {S : Pred} {w0 : World} {ms : List Ent} {H0 H : Heap}
theorem eqGuard_slice {op : BinOp} {t : TypeId} {x y : Operand} {a b : Option Addr} {l c l' c' : Nat} : eqGuard op t x y (.slice a l c) (.slice b l' c') = pure () := by
 cases op <;> rfl
theorem ov_eql_nilS {T E T' : TypeId} {x y : Operand} {a : Option Addr} {l c : Nat} (hT : P.underlying T = some (.slice E)) (h : o.op = .binOp .eql T x y T') (hx : ev g x = some (.slice a l c)) (hy : ev g y = some (.slice none 0 0)) : OV P n o g S (.bool a.isNone) := fun a' w f _ => by
 simp only [execOp, h, f.eval hx, f.eval hy, Sem.run_bind, eqGuard_slice, Sem.run_pure, Result.andThen_ok, Lib.run_eql_slice_nil w T E a l c 0 0 hT]
end
section
variable {w w0 : World} {ms : List Ent} {H0 H : Heap} {T : TypeId} {sz m cap b : Nat} {ao : Option Addr} {xs cur : List Value}
end
section
variable {P : Program} {n : Nat} {o : Oper} {g : Frm} {w0 : World} {ms : List Ent} {H0 H : Heap}
end
section
variable {w w0 : World} {ms : List Ent} {H0 H : Heap} {T : TypeId} {sz m cap b i : Nat} {ao : Option Addr} {xs cur : List Value}
theorem St.far {k : Nat} {e e' : Ent} (h : St w0 H0 ms H w) (hi : ms[i]? = some e) (hk : ms[k]? = some e') (hne : i ≠ k) : ∀ b, e.at = some b → e'.at ≠ some b := fun b h1 h2 => by
 obtain ⟨hi1, hi2⟩ := List.getElem?_eq_some_iff.1 hi
 obtain ⟨hk1, hk2⟩ := List.getElem?_eq_some_iff.1 hk
 have hp := List.pairwise_iff_getElem.1 h.apart
 rcases Nat.lt_or_gt_of_ne hne with q | q
 · exact hp i k hi1 hk1 q b (by rw [hi2]; exact h1) (by rw [hk2]; exact h2)
 · exact hp k i hk1 hi1 q b (by rw [hk2]; exact h2) (by rw [hi2]; exact h1)
theorem St.move {e : Ent} (h : St w0 H0 (e :: ms) H w) (i : Nat) : St w0 H0 (ms.set i e) H w := by
 have hm : ∀ x ∈ ms.set i e, x ∈ e :: ms := fun x hx => by
  rcases List.mem_or_eq_of_mem_set hx with h | rfl
  · exact List.mem_cons_of_mem _ h
  · exact List.mem_cons_self ..
 refine ⟨h.old, h.below, h.hold, fun x hx => h.sat x (hm x hx), fun x hx => h.own x (hm x hx), ?_⟩
 rw [List.pairwise_iff_getElem]
 intro p q hp hq hpq b hb hb'
 have hA := fun y hy => List.rel_of_pairwise_cons (a' := y) h.apart hy
 have hB := List.pairwise_iff_getElem.1 (List.Pairwise.of_cons h.apart)
 rw [List.getElem_set] at hb hb'
 rw [List.length_set] at hp hq
 by_cases h1 : i = p
 · rw [if_pos h1] at hb
   rw [if_neg (by omega)] at hb'
   exact hA _ (List.getElem_mem hq) b hb hb'
 · rw [if_neg h1] at hb
   by_cases h2 : i = q
   · rw [if_pos h2] at hb'
     exact hA _ (List.getElem_mem hp) b hb' hb
   · rw [if_neg h2] at hb'
     exact hB p q hp hq hpq b hb hb'
end
section
variable {α : Type} {H : Heap} {E : Enc α} {l : List α} {xs : List Value}
theorem RL.take (h : RL H E l xs) (n : Nat) : RL H E (l.take n) (xs.take (n * E.size)) := by
 refine ⟨?_, fun i x e => ?_⟩
 · rw [List.length_take, List.length_take, h.1]
   rcases Nat.le_total n l.length with k | k
   · rw [Nat.min_eq_left k, Nat.min_eq_left (Nat.mul_le_mul_right _ k)]
   · rw [Nat.min_eq_right k, Nat.min_eq_right (Nat.mul_le_mul_right _ k)]
 · rw [List.getElem?_take] at e
   split at e
   · rename_i hlt
     have := h.2 i x e
     rw [List.drop_take, List.take_take, Nat.min_eq_left]
     · exact this
     · rw [← Nat.sub_mul]
       exact Nat.le_mul_of_pos_left _ (by omega)
   · cases e
theorem RL.drop (h : RL H E l xs) (n : Nat) : RL H E (l.drop n) (xs.drop (n * E.size)) := by
 refine ⟨?_, fun i x e => ?_⟩
 · rw [List.length_drop, List.length_drop, h.1, Nat.sub_mul]
 · rw [List.getElem?_drop] at e
   have := h.2 _ x e
   rw [List.drop_drop]
   rw [Nat.add_mul] at this
   exact this
end
section
variable {P : Program} {n : Nat} {o : Oper} {g : Frm} {w0 : World} {ms : List Ent} {H0 H : Heap}
theorem OV.as {S : Pred} {v v' : Value} (h : OV P n o g S v) (e : v = v') : OV P n o g S v' := e ▸ h
theorem WP.ex {F : Fence} {α : Type} {c : Code} {S : α → Pred} {Q : Exit → Frm → Pred → Prop} (h : ∀ x, WP F P n c g (S x) Q) : WP F P n c g (fun w => ∃ x, S x w) Q := fun a w f ⟨x, s⟩ => h x a w f s
theorem WP.pre {F : Fence} {p : Prop} {c : Code} {S : Pred} {Q : Exit → Frm → Pred → Prop} (h : p → WP F P n c g S Q) : WP F P n c g (fun w => p ∧ S w) Q := fun a w f ⟨hp, s⟩ => h hp a w f s
end
def encByte : Enc UInt8 := Enc.flat 1 (fun b => [.int .u8 (b.toNat : Int)]) (fun _ => rfl)
theorem bytes_cells (s : List UInt8) : Lib.strCells ⟨s.toArray⟩ = s.flatMap fun b => [Value.int .u8 (b.toNat : Int)] := by
 induction s with
 | nil => rfl
 | cons x r ih =>
  simp only [Lib.strCells] at ih ⊢
  simp [List.flatMap_cons]
  simpa using ih
theorem RL.str (H : Heap) (s : List UInt8) : RL H encByte s (Lib.strCells ⟨s.toArray⟩) := by
 rw [bytes_cells]
 exact RL.flat s
theorem RL.bytes {H : Heap} : ∀ {l : List UInt8} {xs : List Value}, RL H encByte l xs → xs = Lib.byteCells l := by
 intro l
 induction l with
 | nil =>
  intro xs h
  exact List.eq_nil_of_length_eq_zero (by simpa using h.1)
 | cons b r ih =>
  intro xs h
  have h0 := h.2 0 b rfl
  have hs : encByte.size = 1 := rfl
  rw [hs] at h0
  cases xs with
  | nil => cases h0
  | cons x ys =>
   have e : [x] = [Value.int .u8 (b.toNat : Int)] := h0
   have hy : RL H encByte r ys := by
    have := h.drop 1
    rw [hs] at this
    simpa using this
   rw [ih hy]
   injection e with e1
   subst e1
   rfl
section
variable {P : Program} {n : Nat} {o : Oper} {g : Frm} {w0 : World} {ms : List Ent} {H0 H : Heap}
theorem append_block_str {w w' : World} {base : Nat} {T U E ty : TypeId} {i0 : TypeInfo} {v v' : Value} {m : Nat} {s : ByteArray} {xs : List Value} (hT : P.underlying T = some (.slice E)) (hU : P.underlying U = some .string) (hi : P.info? E = some i0) (hz : i0.zero = some (.int .u8 0)) (hs1 : i0.size = 1) (hb1 : i0.bytes = 1)
 (hv : w.ownsRow base E 1 v m xs) (hm : m + s.size ≤ maxLen) (hb : m + s.size ≤ 140737488355328) (hnil : v' = .slice none 0 0 ↔ v = .slice none 0 0 ∧ s.size = 0)
 (hr : (Builtin.append_ #[T, U] ty #[v, .string s]).run P w = .ok v' w') : ∀ d, v'.ownBlock = some d → v.ownBlock = some d ∨ w.heap.size ≤ d := fun d hd => by
 have hmm : maxLen ≤ 9223372036854775807 := by decide
 have hcells := fun b (h : v.ownBlock = some b) => hv.cells (g := b) h
 rcases hv.2 with ⟨rfl, rfl⟩ | ⟨b, cap, cur, rfl, _, hh, hle, _, hcs, htake⟩
 · by_cases hk : s.size = 0
   · rw [hnil.2 ⟨rfl, hk⟩] at hd
     simp [Value.ownBlock] at hd
   · have := run_append_nil_string (P := P) w T U ty E i0 (.int .u8 0) hT hU hi hz s (by omega) (by omega) (by rw [hb1]; omega)
     rw [this] at hr
     injection hr with e1 _
     subst e1
     simp [Value.ownBlock] at hd
     right; omega
 · by_cases hroom : m + s.size ≤ cap
   · have := Lib.run_append_room_string (P := P) w T U ty E i0 hT hU hi hs1 b m cap cur hh s hroom (by rw [hcs]; omega)
     rw [this] at hr
     injection hr with e1 _
     subst e1
     exact .inl hd
   · have := Lib.run_append_grow_string (P := P) w T U ty E i0 (.int .u8 0) hT hU hi hz ⟨b, 0, none⟩ m cap xs (by rw [hs1]; exact hv.1) (hcells b rfl) s (by omega) (by omega) (by rw [hb1]; exact growslice_fits (by omega) (by omega))
     rw [this] at hr
     injection hr with e1 _
     subst e1
     simp [Value.ownBlock] at hd
     right; omega
theorem os_app_str {T U E : TypeId} {p q : Operand} {i : Nat} {l r x : List UInt8} {v : Value} {xs : List Value} {K : Value → Pred → Prop} (hT : P.underlying T = some (.slice E)) (hU : P.underlying U = some .string) (hI : (P.info? E).map (fun i => (i.zero, i.size, i.bytes)) = some (some (.int .u8 0), 1, 1))
 (h : o.op = .call { callee := .builtin .append, args := #[p, q], argTypes := #[T, U] }) (hx : ev g p = some v) (hy : ev g q = some (mkS r)) (hi : ms[i]? = some (.row E encByte.size l.length v xs)) (hR : RL H encByte l xs) (hm : appO 1 l r = some x)
 (kk : ∀ ao cap ys, RL H encByte (l ++ r) (xs ++ ys) → K (.slice ao (l ++ r).length cap) (St w0 H0 (ms.set i (.row E encByte.size (l ++ r).length (.slice ao (l ++ r).length cap) (xs ++ ys))) H)) : OS P n o g (St w0 H0 ms H) K := fun a w f s next Q hn => by
 obtain ⟨i0, hi0, hz0, hz1, hz2⟩ := info_parts hI
 have si : w.ownsRow w0.heap.size E 1 v l.length xs := s.sat _ (List.mem_of_getElem? hi)
 have hsz : (ByteArray.mk r.toArray).size = r.length := by simp [ByteArray.size]
 obtain ⟨⟨hb1, hb2⟩, _⟩ := appO_some hm
 obtain ⟨v', w', hr, hown, hgr, hnil⟩ := Lib.run_append_own_string (P := P) w w0.heap.size T U o.type E i0 hT hU hi0 hz0 hz1 hz2 v l.length xs si ⟨r.toArray⟩ (by rw [hsz]; exact hb2) (by rw [hsz]; omega) s.below.size
 have hr' : (execOp a.eval o).run P w = .ok (.value v') w' := by
  simp [execOp, h, resolve, invoke, builtin, f.eval hx, f.eval hy, mkS, hr]
 have hblk := append_block_str hT hU hi0 hz0 hz1 hz2 si (by rw [hsz]; exact hb2) (by rw [hsz]; omega) hnil hr
 unfold Oper.wp
 rw [hr']
 rw [hsz, ← List.length_append] at hown
 have hv : ∃ ao cap, v' = .slice ao (l ++ r).length cap := by
  rcases hown.2 with ⟨e1, e2⟩ | ⟨b', c', _, e1, _⟩
  · exact ⟨none, 0, by rw [e1, e2]⟩
  · exact ⟨_, c', e1⟩
 obtain ⟨ao, cap, rfl⟩ := hv
 exact hn _ _ _ (kk ao cap _ (hR.append (RL.str H r))) (s.turn hi hgr hown hblk)
theorem eqGuard_ptr {op : BinOp} {t : TypeId} {x y : Operand} {a b : Option Addr} : eqGuard op t x y (.pointer a) (.pointer b) = pure () := by
 cases op <;> rfl
theorem ov_toUnsafe {S : Pred} {A B t e : TypeId} {x : Operand} {b sz : Nat} {cs : Array Value} (hA : P.underlying A = some (.pointer t)) (hB : P.underlying B = some .unsafePointer) (hs : (P.info? t).map (·.size) = some sz) (h0 : sz ≠ 0) (h : o.op = .convert A B x) (hx : ev g x = some (pB b 0)) (hh : ∀ w, S w → w.heap[b]? = some (.cells cs e (0, 0))) (hc : 0 < cs.size) : OV P n o g S (pB b 0) := fun a w f s => by
 obtain ⟨j, hj, hjs⟩ := Option.map_eq_some_iff.1 hs
 have e1 := Lib.run_to_unsafe (P := P) w (src := A) (dst := B) (cells := cs.size) (e := e) ⟨b, 0, none⟩ hA hB hj (by rw [hjs]; exact h0) (by simp [World.shape?, hh w s]) hc
 simp [execOp, h, f.eval hx, pB, e1]
theorem ov_fromUnsafe {S : Pred} {A B t e : TypeId} {x : Operand} {b sz : Nat} {cs : Array Value} (hA : P.underlying A = some .unsafePointer) (hB : P.underlying B = some (.pointer t)) (hs : (P.info? t).map (·.size) = some sz) (h : o.op = .convert A B x) (hx : ev g x = some (pB b 0)) (hh : ∀ w, S w → w.heap[b]? = some (.cells cs e (0, 0))) (hl : liesAt P P.depth e (cs.size / P.cellsOf e) 0 t 1 = true) : OV P n o g S (pB b 0) := fun a w f s => by
 obtain ⟨j, hj, hjs⟩ := Option.map_eq_some_iff.1 hs
 have e1 := Lib.run_from_unsafe (P := P) w (src := A) (dst := B) (cells := cs.size) (e := e) ⟨b, 0, none⟩ hA hB hj (by simp [World.shape?, hh w s]) hl
 simp [execOp, h, f.eval hx, pB, e1]
theorem ov_noEscape {S : Pred} {F : FuncId} {fn : Func} {x : Operand} {ats : Array TypeId} {v : Value} (hF : P.funcs[F]? = some fn) (hname : (fn.name == "runtime.NumGoroutine") = false) (hb : fn.body.isNone = true) (hnx : Extern.findNext fn = none) (he : Extern.find fn = some Extern.AbiNoEscape.same)
 (h : o.op = .call { callee := .value (.func F), args := #[x], argTypes := ats }) (hx : ev g x = some v) : OV P n o g S v := fun a w f s => by
 have e1 := run_callFunc_extern (P := P) hF hname hb hnx he #[v] w
 rw [Lib.run_noEscape] at e1
 simp only [Result.andThen_ok] at e1
 have hf : ev g (Operand.func F) = some (.func (.func F) #[] #[]) := rfl
 simp [execOp, h, resolve, invoke, f.eval hf, Deferred.ofValue, f.eval hx, e1]
def older (w0 : World) (H : Heap) : Heap := fun b => if b < w0.heap.size then H b else none
theorem older_le (w0 : World) (H : Heap) : Le (older w0 H) H := fun b o h => by
 unfold older at h
 split at h
 · exact h
 · cases h
theorem St.wiped {w w' : World} (h : St w0 H0 ms H w) (k : Below w0.heap.size w w') : St w0 H0 [] (older w0 H) w' := by
 refine ⟨fun b o e hb => h.old b o (older_le _ _ b o e) hb, h.below.trans k, fun b o e => ?_, fun e he => (by cases he), fun e he => (by cases he), List.Pairwise.nil⟩
 have e1 := h.hold b o (older_le _ _ b o e)
 have hb : b < w0.heap.size := by
  unfold older at e
  split at e
  · assumption
  · cases e
 show w'.heap[b]? = some o
 rw [k.block b hb]
 exact e1
theorem St.builder {w : World} {i j b : Nat} {T E : TypeId} {pv v : Value} {m : Nat} {xs : List Value} (h : St w0 H0 ms H w) (hi : ms[i]? = some (.blk b T [pv, v])) (hj : ms[j]? = some (.row E 1 m v xs)) : Lib.BuilderAt T E w0.heap.size b pv xs w := by
 have hr : w.ownsRow w0.heap.size E 1 v m xs := h.sat _ (List.mem_of_getElem? hj)
 have hl : m = xs.length := by rw [hr.1, Nat.mul_one]
 refine ⟨(h.own _ (List.mem_of_getElem? hi) b rfl).1, v, h.sat _ (List.mem_of_getElem? hi), by rw [← hl]; exact hr, fun e => ?_⟩
 obtain ⟨hi1, hi2⟩ := List.getElem?_eq_some_iff.1 hi
 obtain ⟨hj1, hj2⟩ := List.getElem?_eq_some_iff.1 hj
 have hp := List.pairwise_iff_getElem.1 h.apart
 rcases Nat.lt_trichotomy i j with k | k | k
 · have := hp i j hi1 hj1 k b (by rw [hi2]; rfl)
   rw [hj2] at this
   exact this e
 · subst k
   rw [hi2] at hj2
   cases hj2
 · have := hp j i hj1 hi1 k b (by rw [hj2]; exact e)
   rw [hi2] at this
   exact this rfl
end
theorem andT {c a : Bool} (h : c = true) : a = (c && a) := by rw [h]; cases a <;> rfl
theorem andF {c a : Bool} (h : c = false) : false = (c && a) := by rw [h]; cases a <;> rfl
theorem orT {c a : Bool} (h : c = true) : true = (c || a) := by rw [h]; cases a <;> rfl
theorem orF {c a : Bool} (h : c = false) : a = (c || a) := by rw [h]; cases a <;> rfl
theorem wq {F : Fence} [Free F] {P : Program} {n : Nat} {g : Frm} {S : Pred} {K : Frm → Pred → Prop} {ops : Array Oper} {l : List Oper} {o : Oper} {d : Nat} {v : Value} (hg : o.guard = none) (hd : o.dst = some d) (hn : okDst d n = true) (h : OV P n o g S v) (k : WL F P n ops l ((d, v) :: g) S K) : WL F P n ops (o :: l) g S K :=
 WL.quiet (Runs.free hg) hd hn (OV.quiet h) k
theorem tq {P : Program} {n fuel : Nat} {g : Frm} {S S₀ : Pred} {K : Frm → Pred → Prop} {L : List Oper} {o : Oper} {listed : Array Bool} {i d : Nat} {v : Value} (hi : L[i]? = some o) (hh : (Region.noSelect L.toArray && (Region.free .any L.toArray listed i && (Region.ready .any L.toArray listed).contains i)) = true)
 (hg : o.guard = none) (hd : o.dst = some d) (hn : okDst d n = true) (h : OV P n o g S₀ v) (k : AL P n L.toArray S₀ fuel (listed.setIfInBounds i true) ((d, v) :: g) S K) : AL P n L.toArray S₀ (fuel + 1) listed g S K := by
 rw [Bool.and_eq_true, Bool.and_eq_true] at hh
 exact AL.take hi hh.1 hh.2.1 hh.2.2 (Runs.free hg) hd hn h k
def lrec (st : LoopState) (pd : Option Code) (fid : FuncId) (T : Array Value) (ps : Array Tmp) (assign body : Code) (D : Nat) : Obj :=
 .loop { state := st, pending := pd, fn := fid, tmps := T, params := ps, assign, body, defers := D }
def parFrm : List Tmp → List Value → Frm → Frm
 | p :: ps, v :: vs, g => parFrm ps vs ((p, v) :: g)
 | _, _, g => g
theorem fits_par {n : Nat} : ∀ (ps : List Tmp) (vs : List Value) (g : Frm) (T : Array Value), (ps.all fun p => okDst p n) = true → ps.length = vs.length → Fits n g ⟨T, []⟩ →
 Fits n (parFrm ps vs g) ⟨(ps.zip vs).foldl (fun tmps (x : Tmp × Value) => tmps.setIfInBounds x.1 x.2) T, []⟩
 | [], [], g, T, _, _, f => f
 | p :: ps, v :: vs, g, T, h, hl, f => by
  rw [List.all_cons, Bool.and_eq_true] at h
  exact fits_par ps vs ((p, v) :: g) (T.setIfInBounds p v) h.2 (by simpa using hl) (f.put h.1 v)
 | [], _ :: _, _, _, _, hl, _ => by simp at hl
 | _ :: _, [], _, _, _, hl, _ => by simp at hl
section
variable {P : Program} {n : Nat} {o : Oper} {g : Frm} {w0 : World} {ms : List Ent} {H0 H : Heap}
theorem St.obj_put {w : World} {i b : Nat} {x y : Obj} (h : St w0 H0 ms H w) (hi : ms[i]? = some (.obj b x)) : St w0 H0 (ms.set i (.obj b y)) H (w.putObj b y) := by
 have hx : w.heap[b]? = some x := h.sat _ (List.mem_of_getElem? hi)
 have hlt := (Array.getElem?_eq_some_iff.1 hx).1
 refine h.turn hi ⟨rfl, rfl, rfl, by simp, fun k hk hne => World.putObj_heap_other (fun e => hne (by subst e; rfl))⟩ ?_ (fun c hc => .inl hc)
 exact World.putObj_heap_same hlt
def RecOf (R : LoopState → Option Code → Obj) (n : Nat) (g : Frm) (ps : List Tmp) (assign body : Code) (D : Nat) : Prop :=
 ∃ (fid : FuncId) (T : Array Value), (∀ st pd, R st pd = lrec st pd fid T ps.toArray assign body D) ∧ Fits n g ⟨T, []⟩
def AfterQ (w0 : World) (H0 : Heap) (l D : Nat) (R : LoopState → Option Code → Obj) (g : Frm) (Q : Exit → Frm → Pred → Prop) (S : Pred) : Prop :=
 ∃ (st : LoopState) (pd : Option Code) (ms : List Ent) (H : Heap), S = St w0 H0 (.obj l (R st pd) :: .obj D (.deferred (some [])) :: ms) H ∧ st ≠ .busy ∧
  match pd with
  | none => Q .normal ((markKey, .int .i64 D) :: g) (St w0 H0 (.obj D (.deferred (some [])) :: ms) H)
  | some .ret => Q .ret ((markKey, .int .i64 D) :: g) (St w0 H0 (.obj D (.deferred (some [])) :: ms) H)
  | some (.exit id) => Q (.exit id) ((markKey, .int .i64 D) :: g) (St w0 H0 (.obj D (.deferred (some [])) :: ms) H)
  | _ => False
section
variable {l D : Nat} {R : LoopState → Option Code → Obj} {Q : Exit → Frm → Pred → Prop}
theorem after_normal (h : Q .normal ((markKey, .int .i64 D) :: g) (St w0 H0 (.obj D (.deferred (some [])) :: ms) H)) : AfterQ w0 H0 l D R g Q (St w0 H0 (.obj l (R .ready none) :: .obj D (.deferred (some [])) :: ms) H) :=
 ⟨_, none, ms, H, rfl, by decide, h⟩
theorem after_ret (h : Q .ret ((markKey, .int .i64 D) :: g) (St w0 H0 (.obj D (.deferred (some [])) :: ms) H)) : AfterQ w0 H0 l D R g Q (St w0 H0 (.obj l (R .done (some .ret)) :: .obj D (.deferred (some [])) :: ms) H) :=
 ⟨_, some .ret, ms, H, rfl, by decide, h⟩
end
theorem WP.range {gf : Operand} {ps : List Tmp} {assign body : Code} {F2 : FuncId} {fn2 : Func} {c2 : Code} {cap : List Value} {Q : Exit → Frm → Pred → Prop} (hc : ∀ args w, (callFunc F2 args).run P w = .ok (.enter F2 args) w)
 (hg : ev g gf = some (.func (.func F2) #[] cap.toArray)) (hf : P.funcs[F2]? = some fn2) (hb : fn2.body = some c2) (n2 : Nat) (hnt : fn2.ntmps = n2) (hn : Nat.ble (cap.length + 1) n2 = true)
 (k : ∀ (l D : Nat) (R : LoopState → Option Code → Obj), RecOf R n g ps assign body D →
  WP Fence.wide P n2 c2 (argFrm 0 (.func (.yield l) #[] #[] :: cap)) (St w0 H0 (.obj l (R .ready none) :: .obj D (.deferred (some [])) :: ms) H)
   (retQ n2 fn2 P fun _ w' => ∃ S', AfterQ w0 H0 l D R g Q S' ∧ S' w'))
 (hm : look g markKey = some (.bool false) := by rfl) (hk : Nat.ble (cap.length + 1) markKey = true := by rfl) : WP Fence.wide P n (.rangeFunc gf ps.toArray assign body) g (St w0 H0 ms H) Q := fun a w f s => by
 have hd : a.defers = [] := f.marks _ hm
 have ha : a = ⟨a.tmps, []⟩ := by cases a; simp_all
 refine wpIn_rangeFunc fun fid _ => ?_
 have hlrec : (Instr.enterLoop fid a.tmps ps.toArray assign body Fence.wide.round).run P w = _ := run_enterLoop_outer (P := P) (w := w) fid a.tmps ps.toArray assign body
 have s1 : St w0 H0 (.obj w.heap.size (.deferred (some [])) :: ms) H (w.alloc (.deferred (some []))) :=
  s.push ((Below.refl _ w).alloc (Nat.le_refl _) _) (World.alloc_heap_new w _) (fun b hb => by cases hb; exact Nat.le_refl _)
 have s2 := s1.push (e := .obj (w.heap.size + 1) (lrec .ready none fid a.tmps ps.toArray assign body w.heap.size)) ((Below.refl _ _).alloc (Nat.le_refl _) _)
  (by have := World.alloc_heap_new (w.alloc (.deferred (some []))) (lrec .ready none fid a.tmps ps.toArray assign body w.heap.size); rw [World.size_alloc] at this; exact this) (fun b hb => by cases hb; simp)
 have hcall := calls_of (w := (w.alloc (.deferred (some []))).alloc (lrec .ready none fid a.tmps ps.toArray assign body w.heap.size)) _ s2 hf hb n2 hnt (by simpa using hn) (k (w.heap.size + 1) w.heap.size (fun st pd => lrec st pd fid a.tmps ps.toArray assign body w.heap.size) ⟨fid, a.tmps, fun _ _ => rfl, by rw [← ha]; exact f⟩) (by simpa using hk)
 refine ⟨w.heap.size + 1, _, _, { target := .fn (.func F2) cap.toArray, args := #[.func (.yield (w.heap.size + 1)) #[] #[]] }, (w.alloc (.deferred (some []))).alloc (lrec .ready none fid a.tmps ps.toArray assign body w.heap.size), F2, _, _, hlrec, ?_, fun _ _ => trivial, ?_, fun h => (by cases h), callsIn_wide.2 (Calls.mono hcall ?_)⟩
 · simp [resolve, rangeCall, f.eval hg, Deferred.ofValue]
   exact ⟨rfl, rfl⟩
 · have := hc (#[.func (.yield (w.heap.size + 1)) #[] #[]] ++ cap.toArray) ((w.alloc (.deferred (some []))).alloc (lrec .ready none fid a.tmps ps.toArray assign body w.heap.size))
   simp only [invoke]
   simpa using this
 · rintro e w3 ⟨v, rfl, S', ⟨st, pd, ms', H', rfl, hst, hj⟩, s3⟩
   have hl : w3.heap[w.heap.size + 1]? = some (lrec st pd fid a.tmps ps.toArray assign body w.heap.size) := s3.sat _ (List.mem_cons_self ..)
   have s4 := (s3.obj_put (i := 0) (y := lrec .exhausted pd fid a.tmps ps.toArray assign body w.heap.size) rfl).less (List.sublist_cons_self _ _)
   have hfit : Fits n ((markKey, .int .i64 w.heap.size) :: g) { a with defers := [{ target := .collected w.heap.size, args := #[] }] ++ a.defers } := by
    refine ⟨fun v e => ?_, f.size, fun t v e ht => f.slots t v (by rw [look_cons, if_neg (fun q => ht q.symm)] at e; exact e) ht⟩
    rw [look_cons, if_pos rfl] at e
    cases e
    rw [hd]
    simp [defersOf]
   refine ⟨pd, _, run_endLoop hl hst, ?_⟩
   cases pd with
   | none => exact ⟨_, _, hfit, s4, hj⟩
   | some c =>
    cases c with
    | ret => exact wpIn_ret ⟨_, _, hfit, s4, hj⟩
    | exit id => exact wpIn_exit ⟨_, _, hfit, s4, hj⟩
    | _ => exact hj.elim
def roundQ (w0 : World) (H0 : Heap) (l : Nat) (R : LoopState → Option Code → Obj) (K : Bool → Pred → Prop) : Exit → Frm → Pred → Prop
 | .normal, _, S => ∃ i ms H, (∀ w, S w → St w0 H0 ms H w) ∧ ms[i]? = some (.obj l (R .busy none)) ∧ K true (St w0 H0 (ms.set i (.obj l (R .ready none))) H)
 | .ret, _, S => ∃ i ms H, (∀ w, S w → St w0 H0 ms H w) ∧ ms[i]? = some (.obj l (R .busy none)) ∧ K false (St w0 H0 (ms.set i (.obj l (R .done (some .ret)))) H)
 | .exit id, _, S => ∃ i ms H, (∀ w, S w → St w0 H0 ms H w) ∧ ms[i]? = some (.obj l (R .busy none)) ∧ K false (St w0 H0 (ms.set i (.obj l (R .done (some (.exit id))))) H)
 | _, _, _ => False
def beginQ (P : Program) (w0 : World) (H0 : Heap) (n l : Nat) (R : LoopState → Option Code → Obj) (body : Code) (Q : Exit → Frm → Pred → Prop) (g : Frm) (S : Pred) : Prop :=
 ∃ i ms H, S = St w0 H0 ms H ∧ ms[i]? = some (.obj l (R .ready none)) ∧ WP (Fence.wide.inRound l) P n body g (St w0 H0 (ms.set i (.obj l (R .busy none))) H) Q
def noQ : Exit → Frm → Pred → Prop := fun _ _ _ => False
section
variable {l i : Nat} {R : LoopState → Option Code → Obj} {K : Bool → Pred → Prop}
theorem begin_of {n : Nat} {body : Code} {Q : Exit → Frm → Pred → Prop} (hi : ms[i]? = some (.obj l (R .ready none))) (h : WP (Fence.wide.inRound l) P n body g (St w0 H0 (ms.set i (.obj l (R .busy none))) H) Q) : beginQ P w0 H0 n l R body Q g (St w0 H0 ms H) := ⟨i, ms, H, rfl, hi, h⟩
theorem round_normal (hi : ms[i]? = some (.obj l (R .busy none))) (h : K true (St w0 H0 (ms.set i (.obj l (R .ready none))) H)) : roundQ w0 H0 l R K .normal g (St w0 H0 ms H) := ⟨i, ms, H, fun _ s => s, hi, h⟩
theorem round_ret (hi : ms[i]? = some (.obj l (R .busy none))) (h : K false (St w0 H0 (ms.set i (.obj l (R .done (some .ret)))) H)) : roundQ w0 H0 l R K .ret g (St w0 H0 ms H) := ⟨i, ms, H, fun _ s => s, hi, h⟩
end
theorem WL.yield {ops : Array Oper} {L : List Oper} {K : Frm → Pred → Prop} {y : Operand} {xs : List Operand} {ats : Array TypeId} {vs : List Value} {i l D d nr : Nat} {R : LoopState → Option Code → Obj} {ps : List Tmp} {assign body : Code} {gr : Frm}
 (hr : Runs n ops g o) (hd : o.dst = some d) (hn : okDst d n = true) (h : o.op = .call { callee := .value y, args := xs.toArray, argTypes := ats }) (hy : ev g y = some (.func (.yield l) #[] #[])) (hx : evs g xs = some vs)
 (hrec : RecOf R nr gr ps assign body D) (hi : ms[i]? = some (.obj l (R .ready none))) (hps : (ps.all fun p => okDst p nr) = true) (hlen : ps.length = vs.length)
 (k : WP (Fence.wide.inRound l) P nr assign (parFrm ps vs gr) (St w0 H0 ms H) (thenQ (beginQ P w0 H0 nr l R body (roundQ w0 H0 l R fun b S' => WL Fence.wide P n ops L ((d, .bool b) :: g) S' K)) noQ)) :
 WL Fence.wide P n ops (o :: L) g (St w0 H0 ms H) K := fun a w f s Q hQ => by
 obtain ⟨fid, T, hR, hT⟩ := hrec
 obtain rfl : R = fun st pd => lrec st pd fid T ps.toArray assign body D := funext fun st => funext fun pd => hR st pd
 have hl : w.heap[l]? = some (lrec .ready none fid T ps.toArray assign body D) := s.sat _ (List.mem_of_getElem? hi)
 refine wpList_do (hr a f) ⟨fun _ _ => trivial, ?_⟩
 have hrun : (o.semAt Fence.wide.round a.eval).run P w = .ok (.round l fid ((ps.zip vs).foldl (fun tmps (x : Tmp × Value) => tmps.setIfInBounds x.1 x.2) T) assign body) w := by
  have h1 := run_yield (P := P) (args := vs.toArray) hl (by simp [hlen])
  show (execOp a.eval o).run P w = _
  simp only [execOp, h, resolve, Sem.run_bind]
  simp [invoke, f.eval hy, Deferred.ofValue, evs_arr hx a f]
  simpa using h1
 rw [hrun]
 refine ⟨fun q => (by cases q), roundIn_of_wpIn trivial ?_⟩
 refine Code.wpIn_mono ?_ (k _ w (fits_par ps vs gr T hps hlen hT) s)
 rintro e a1 w1 ⟨g', S', hf', hs', hq⟩
 cases e with
 | normal =>
  obtain ⟨j, ms1, H1, rfl, hj, hbody⟩ := hq
  have hl1 : w1.heap[l]? = some (lrec .ready none fid T ps.toArray assign body D) := hs'.sat _ (List.mem_of_getElem? hj)
  refine ⟨_, run_beginRound hl1 rfl, ?_⟩
  refine Code.wpIn_mono ?_ (hbody a1 _ hf' (hs'.obj_put hj))
  rintro e2 a2 w2 ⟨g2, S2, hf2, hs2, hq2⟩
  cases e2 with
  | normal =>
   obtain ⟨j2, ms2, H2, hS2, hj2, hk⟩ := hq2
   replace hs2 := hS2 _ hs2
   have hl2 : w2.heap[l]? = some (lrec .busy none fid T ps.toArray assign body D) := hs2.sat _ (List.mem_of_getElem? hj2)
   refine ⟨_, _, run_endRound none hl2, ?_⟩
   exact hk _ _ (by rw [hd]; exact f.put hn _) (hs2.obj_put hj2) Q hQ
  | ret =>
   obtain ⟨j2, ms2, H2, hS2, hj2, hk⟩ := hq2
   replace hs2 := hS2 _ hs2
   have hl2 : w2.heap[l]? = some (lrec .busy none fid T ps.toArray assign body D) := hs2.sat _ (List.mem_of_getElem? hj2)
   refine ⟨_, _, run_endRound (some .ret) hl2, ?_⟩
   exact hk _ _ (by rw [hd]; exact f.put hn _) (hs2.obj_put hj2) Q hQ
  | exit id =>
   obtain ⟨j2, ms2, H2, hS2, hj2, hk⟩ := hq2
   replace hs2 := hS2 _ hs2
   have hl2 : w2.heap[l]? = some (lrec .busy none fid T ps.toArray assign body D) := hs2.sat _ (List.mem_of_getElem? hj2)
   refine ⟨_, _, run_endRound (some (.exit id)) hl2, ?_⟩
   exact hk _ _ (by rw [hd]; exact f.put hn _) (hs2.obj_put hj2) Q hQ
  | goto _ => exact hq2.elim
  | panic _ => exact hq2.elim
  | outgrown => exact hq2.elim
 | exit id => exact hq.elim
 | ret => exact hq.elim
 | goto _ => exact hq.elim
 | panic _ => exact hq.elim
 | outgrown => exact hq.elim
theorem retQ_retM {fn : Func} {R : Value → World → Prop} {rs : List ResultVar} {vs : List Value} {v : Value} {D i : Nat} (hi : ms[i]? = some (.obj D (.deferred (some [])))) (hr : fn.results = rs.toArray) (h : Res P g (St w0 H0 (ms.eraseIdx i) H) rs vs) (hv : tupled vs = v) (hR : ∀ w, St w0 H0 (ms.eraseIdx i) H w → R v w) (hm : look g markKey = some (.int .i64 D) := by rfl) : retQ n fn P R .ret g (St w0 H0 ms H) :=
 ⟨tupled vs, St w0 H0 (ms.eraseIdx i) H, .inr ⟨D, hm, fun w s => ⟨s.sat _ (List.mem_of_getElem? hi), ((s.obj_put hi).less (by rw [List.set_eq_take_append_cons_drop, if_pos (List.getElem?_eq_some_iff.1 hi).1, List.eraseIdx_eq_take_drop_succ]; exact (List.Sublist.refl _).append (List.sublist_cons_self _ _)))⟩⟩, results_of hr h, by rw [hv]; exact hR⟩
end
section
variable {P : Program} {n : Nat} {o : Oper} {g : Frm} {S : Pred}
theorem ov_slice_arr {T E : TypeId} {x : Operand} {b m s : Nat} (hT : P.underlying T = some (.array m E)) (hs : ∀ w, (sizeOf E).run P w = .ok s w) (h : o.op = .slice T x none none none) (hx : ev g x = some (pB b 0)) (hm : Nat.blt 0 m = true) :
 OV P n o g S (.slice (some ⟨b, 0, none⟩) m m) := fun a w f _ => by
 have hm' : 0 < m := by simpa [Nat.blt_eq] using hm
 have hne : ¬ (m = 0) := by omega
 simp [execOp, h, f.eval hx, pB, Instr.sliceAt, run_underlying hT, Instr.slice, Instr.sliceBounds, hs, Instr.sureAddr, Addr.add]
theorem ov_indexAddr_at {T E : TypeId} {x y : Operand} {b k m s j : Nat} {kk : IntKind} {i : Int} (hT : P.underlying T = some (.array m E)) (hs : ∀ w, (sizeOf E).run P w = .ok s w) (h : o.op = .indexAddr T x y) (hx : ev g x = some (pB b k)) (hy : ev g y = some (.int kk i)) (hi : i = (j : Int)) (h1 : Nat.blt j m = true) :
 OV P n o g S (pB b (k + j * s)) := by
 subst hi
 have h1' : j < m := by simpa [Nat.blt_eq] using h1
 simpa using ov_indexAddr_arr (i := (j : Int)) hT hs h hx hy (by omega) (by omega)
theorem ov_indexAddr_bsl {T E : TypeId} {x y : Operand} {b k m c s j : Nat} {kk : IntKind} {i : Int} (hT : P.underlying T = some (.slice E)) (hs : ∀ w, (sizeOf E).run P w = .ok s w) (h : o.op = .indexAddr T x y) (hx : ev g x = some (.slice (some ⟨b, k, none⟩) m c)) (hy : ev g y = some (.int kk i)) (hi : i = (j : Int)) (h1 : Nat.blt j m = true) :
 OV P n o g S (pB b (k + j * s)) := by
 subst hi
 have h1' : j < m := by simpa [Nat.blt_eq] using h1
 have := ov_indexAddr (S := S) (P := P) (n := n) (i := (j : Int)) hT hs h hx hy (by omega) (by omega) ⟨_, rfl⟩
 have e : (if j * s = 0 then (⟨b, k, none⟩ : Addr) else ⟨b, k + j * s, none⟩) = ⟨b, k + j * s, none⟩ := by
  split
  · rename_i h0; rw [h0]; rfl
  · rfl
 simpa [pE, pB, Addr.add, e] using this
end
section
variable {P : Program} {n : Nat} {o : Oper} {g : Frm} {w0 : World} {ms : List Ent} {H0 H : Heap}
end
theorem eqGuard_fn {op : BinOp} {t : TypeId} {x y : Operand} {f : Fn} {a c : Array Value} : eqGuard op t x y (.func f a c) .nilFunc = pure () := by
 unfold eqGuard
 cases op <;> simp
theorem eqGuard_nofn {op : BinOp} {t : TypeId} {x y : Operand} : eqGuard op t x y .nilFunc .nilFunc = pure () := by
 unfold eqGuard
 cases op <;> simp
section
variable {F : Fence} [Free F] {P : Program} {n : Nat} {o : Oper}
theorem Oper.wpIn_plain {a : Act} {w : World} {next : Act → World → Prop} {Q : Exit → Act → World → Prop} (hd : ∀ c, o.op ≠ .defer c) (h : o.wp P a w next Q) : o.wpIn F 0 P a w next Q := by
 refine ⟨fun f _ => Free.fn f, ?_⟩
 unfold Oper.wp at h
 have hs : (o.semAt F.round a.eval).run P w = (execOp a.eval o).run P w := by rw [Oper.semAt_eq _ _ _ hd]
 rw [hs]
 generalize (execOp a.eval o).run P w = r at h ⊢
 cases r with
 | ok x w' =>
  cases x <;> simp only [Oper.upon] at h <;> simp only [Oper.uponIn]
  case value u => exact h
  case skip => exact h
  case defer d => exact h
  case enter f args =>
   refine ⟨fun q => (by rw [Free.depth] at q; cases q), Free.calls (Calls.mono h fun e w'' he => ?_)⟩
   cases e with
   | returned v => exact he
   | panicked c => exact he
   | outgrown => exact he
  case row row args => exact ⟨fun q => (by rw [Free.depth] at q; cases q), Free.rows (Rows.mono h fun u w'' he => he)⟩
 | halt x w' =>
  cases x <;> simp only [Oper.upon] at h <;> simp only [Oper.uponIn]
  case panic u => exact h
def calmN (Q : Exit → Act → World → Prop) : Exit → Act → World → Prop
 | .normal, a, w => Q .normal a w
 | _, _, _ => False
def noDefer (l : List Oper) : Bool := l.all fun o => match o.op with | .defer _ => false | _ => true
theorem noDefer_at {l : List Oper} (h : noDefer l = true) {i : Nat} {o : Oper} (hi : l.toArray[i]? = some o) : ∀ c, o.op ≠ .defer c := fun c hc => by
 have := List.all_eq_true.1 h o (List.mem_of_getElem? (by simpa using hi))
 rw [hc] at this
 cases this
theorem wpAnyIn_of {ops : Array Oper} {Q : Exit → Act → World → Prop} (hd : ∀ (i : Nat) (o : Oper), ops[i]? = some o → ∀ c, o.op ≠ .defer c) (hQ : ¬ LetsOut Q) : ∀ (fuel : Nat) (listed : Array Bool) (a : Act) (w : World), wpAny P .any ops Q fuel listed a w → wpAnyIn F 0 P .any ops Q fuel listed a w
 | 0, _, _, _, h => h
 | fuel + 1, listed, a, w, h => by
  refine ⟨h.1, fun i hi => ?_⟩
  have h2 := h.2 i hi
  unfold wpOp at h2
  unfold wpOpIn
  cases ho : ops[i]? with
  | none => rw [ho] at h2; exact wpAnyIn_of hd hQ fuel _ _ _ h2
  | some o =>
   rw [ho] at h2
   dsimp only at h2 ⊢
   split
   · rename_i hw
     rw [if_pos hw] at h2
     rcases h2 with h2 | h2
     · exact Oper.wpIn_mono (fun a' w' k => wpAnyIn_of hd hQ fuel _ a' w' k) (Oper.wpIn_plain (hd i o ho) h2)
     · exact absurd h2.2 hQ
   · rename_i hw
     rw [if_neg hw] at h2
     exact ⟨fun f _ => Free.fn f, wpAnyIn_of hd hQ fuel _ _ _ h2⟩
theorem calmN_out (Q : Exit → Act → World → Prop) : ¬ LetsOut (calmN Q) := fun ⟨_, _, h⟩ => h
theorem WP.region_anyF {g : Frm} {S S₀ : Pred} {Q : Exit → Frm → Pred → Prop} {id : Nat} {l : List Oper} (N : Nat) (hN : l.length = N) (hnd : noDefer l = true) (hm : P.follows .mixedOrders = true) (h0 : ∀ w, S w → S₀ w) (hd : ∀ w, S w → S w.drew)
 (h : AL P n l.toArray S₀ N (Array.replicate N false) g S fun g' S' => Q .normal g' S') : WP F P n (.region id l.toArray true) g S Q := fun a w f s => by
 subst hN
 refine Code.wpIn_mono (Q := calmN (fun e a' w' => ∃ g' S', Fits n g' a' ∧ S' w' ∧ Q e g' S')) (fun e a w hq => by cases e <;> first | exact hq | exact (hq : False).elim) ?_
 refine wpIn_region_any hm (wpAnyIn_of (fun i o hi => noDefer_at hnd hi) (calmN_out _) _ _ _ _ (wpAny_of_held (S := S₀) _ _ _ _ ?_))
 rw [List.size_toArray]
 refine h a w.drew f (hd w s) (h0 _ (hd w s)) _ (fun c a d v w hq => hq) fun g' S' a' w' hq hf hs => ?_
 exact ⟨g', S', hf, hs, hq⟩
end
theorem RL.byte1 {H : Heap} {e : Int} (h : (decide (0 ≤ e) && decide (e ≤ 255)) = true) : RL H encByte [UInt8.ofNat e.toNat] [.int .u8 e] := by
 rw [Bool.and_eq_true, decide_eq_true_eq, decide_eq_true_eq] at h
 refine RL.one ?_
 have e1 : (((UInt8.ofNat e.toNat).toNat : Nat) : Int) = e := by simp; omega
 show [Value.int .u8 e] = [.int .u8 (((UInt8.ofNat e.toNat).toNat : Nat) : Int)]
 rw [e1]
section
variable {P : Program} {n : Nat} {o : Oper} {g : Frm} {w0 : World} {ms : List Ent} {H0 H : Heap}
theorem madeCells_at (z : Array Value) (m s : Nat) (hz : z.size = s) (hs : 0 < s) (i : Nat) (hi : i < m) : (((madeCells z (m * s)).toList.drop (i * s)).take s) = z.toList := by
 have hle : (i + 1) * s ≤ m * s := Nat.mul_le_mul_right s hi
 rw [Nat.add_mul] at hle
 apply List.ext_getElem?
 intro j
 rw [List.getElem?_take]
 by_cases hj : j < s
 · rw [if_pos hj, List.getElem?_drop]
   have h1 : i * s + j < m * s := by omega
   have h2 : (i * s + j) % s = j := by rw [Nat.add_comm, Nat.add_mul_mod_self_right]; exact Nat.mod_eq_of_lt hj
   unfold madeCells
   rw [Array.toList_map, List.getElem?_map, Array.toList_range, List.getElem?_range h1]
   simp only [Option.map_some]
   rw [hz, h2]
   have hj' : j < z.size := by omega
   simp [getElem!_pos z j hj']
 · rw [if_neg hj]
   symm
   rw [List.getElem?_eq_none]
   simp
   omega
theorem os_makeSlice {α : Type} {En : Enc α} {y0 : α} {T E : TypeId} {x y : Operand} {kl kc : IntKind} {m : Int} {bytes : Nat} {z : Value} {K : Value → Pred → Prop} (hT : P.underlying T = some (.slice E)) (hI : (P.info? E).map (fun i => (i.zero, i.size, i.bytes)) = some (some z, En.size, bytes))
 (hz : En.rep H y0 z.cells.toList) (hsz : 0 < En.size) (h : o.op = .makeSlice T x y) (hx : ev g x = some (.int kl m)) (hy : ev g y = some (.int kc m)) (hg : (decide (0 ≤ m) && decide (m * bytes ≤ 140737488355328) && decide (m ≤ 4611686018427387904)) = true)
 (k : ∀ b xs, RL H En (List.replicate (Int.toNat m) y0) xs → K (.slice (some ⟨b, 0, none⟩) (List.replicate (Int.toNat m) y0).length (Int.toNat m)) (St w0 H0 (.row E En.size (List.replicate (Int.toNat m) y0).length (.slice (some ⟨b, 0, none⟩) (List.replicate (Int.toNat m) y0).length (Int.toNat m)) xs :: ms) H)) : OS P n o g (St w0 H0 ms H) K := fun a w f s next Q hn => by
 rw [Bool.and_eq_true, Bool.and_eq_true, decide_eq_true_eq, decide_eq_true_eq, decide_eq_true_eq] at hg
 obtain ⟨⟨g0, g1⟩, g2⟩ := hg
 obtain ⟨i0, hi, he⟩ := Option.map_eq_some_iff.1 hI
 have e1 : i0.zero = some z := congrArg (fun p => p.1) he
 have e2 : i0.size = En.size := congrArg (fun p => p.2.1) he
 have e3 : i0.bytes = bytes := congrArg (fun p => p.2.2) he
 have hr := run_make (P := P) w T E i0 z hT hi e1 kl kc m m g0 (Int.le_refl _) (by rw [e3, Int.mul_comm]; omega) (by omega)
 rw [e2] at hr
 have hrl : RL H En (List.replicate (Int.toNat m) y0) (madeCells z.cells (m.toNat * En.size)).toList := by
  have hzs : z.cells.size = En.size := by have := En.len hz; simpa using this
  refine ⟨by simp [size_madeCells], fun i x hx => ?_⟩
  have hlt : i < m.toNat := by
   have := (List.getElem?_eq_some_iff.1 hx).1
   simpa using this
  have hxe : x = y0 := by
   rw [List.getElem?_replicate, if_pos hlt] at hx
   exact (Option.some.inj hx).symm
  subst hxe
  rw [madeCells_at _ _ _ hzs hsz i hlt]
  exact hz
 have hk := k w.heap.size _ hrl
 have el : (List.replicate (Int.toNat m) y0).length = m.toNat := List.length_replicate
 rw [el] at hk
 unfold Oper.wp
 have hr' : (execOp a.eval o).run P w = .ok (.value (.slice (some ⟨w.heap.size, 0, none⟩) m.toNat m.toNat)) (w.alloc (.cells (madeCells z.cells (m.toNat * En.size)) E)) := by
  simp [execOp, h, f.eval hx, f.eval hy, hr]
 rw [hr']
 refine hn _ _ _ hk (s.push ((Below.refl _ _).alloc (Nat.le_refl _) _) ?_ (fun b hb => by simp [Ent.at, Value.ownBlock] at hb; omega))
 exact ⟨by simp [size_madeCells], .inr ⟨w.heap.size, m.toNat, _, rfl, s.below.size, heap_alloc_new w _, Nat.le_refl _, by unfold maxLen; omega, size_madeCells _ _, by rw [List.take_of_length_le]; simp [size_madeCells]⟩⟩
theorem OS.weaken {S S₁ : Pred} {K : Value → Pred → Prop} (k : ∀ w, S w → S₁ w) (h : OS P n o g S₁ K) : OS P n o g S K := fun a w f s => h a w f (k w s)
theorem OS.held {α : Type} {E : Enc α} {l : List α} {T : TypeId} {sz cap : Nat} {ao : Option Addr} {xs : List Value} {K : Value → Pred → Prop} (hR : RL H E l xs) (k : ∀ H', l.length ≤ cap → Le H H' → SL H' E ao l → OS P n o g (St w0 H0 ms H') K) :
 OS P n o g (St w0 H0 (.row T sz l.length (.slice ao l.length cap) xs :: ms) H) K := fun a w f s => by
 obtain ⟨H', h1, h2, h3, h4⟩ := s.row_held hR
 exact k H' h1 h2 h3 a w f h4
theorem sl_arr_h {α : Type} {E : Enc α} {b : Nat} {l r : List α} {j : Int} (h : SL H E (some ⟨b, 0, none⟩) l) (hr : part? l 0 j = some r) :
 ∃ ao' c', (∀ {P : Program} {n : Nat} {o : Oper} {g : Frm} {S : Pred} {T Et : TypeId} {x z : Operand} {k' : IntKind}, P.underlying T = some (.array l.length Et) → (∀ w, (sizeOf Et).run P w = .ok E.size w) → o.op = .slice T x none (some z) none → ev g x = some (pB b 0) → ev g z = some (.int k' j) → OV P n o g S (.slice ao' r.length c')) ∧ SL H E ao' r ∧ r.length ≤ c' := by
 obtain ⟨h0, h1, h2, rfl⟩ := part?_some hr
 refine ⟨_, l.length - (0 : Int).toNat, fun {P n o g S T Et x z k'} hT hS ho hx hz a w f _ => ?_, sl_cut h (Nat.le_refl _) (show (0 : Int).toNat ≤ j.toNat by omega) (show j.toNat ≤ l.length by omega), by simp; omega⟩
 have hb : (Instr.sliceBounds false l.length l.length none (some (.int k' j)) none).run P w = .ok (0, j.toNat, l.length) w := by
  simp [Instr.sliceBounds, run_sliceBound, h1, h2]
 have hm : min j.toNat l.length = j.toNat := by omega
 simp [execOp, ho, f.eval hx, f.eval hz, pB, Instr.sliceAt, run_underlying hT, Instr.slice, hb, hS, Instr.sureAddr, Addr.add, hm]
end
def encSl {α : Type} (E : Enc α) : Enc (List α) where
 size := 1
 rep := fun H x cs => ∃ (ao1 : Option Addr) (cap1 : Nat), cs = [(.slice ao1 x.length cap1)] ∧ SL H E ao1 x ∧ x.length ≤ cap1
 len := fun h => by obtain ⟨_, _, rfl, _⟩ := h; rfl
 mono := fun k h => by
  obtain ⟨ao1, cap1, rfl, h1, hc1⟩ := h
  exact ⟨ao1, cap1, rfl, h1.mono k, hc1⟩
theorem sl_boxB {H : Heap} {b : Nat} {l : List Bool} (h : ∀ j u, (l.map Value.bool)[j]? = some u → cellH H ⟨b, j, none⟩ = some u) : SL H encBool (some ⟨b, 0, none⟩) l := fun i x hx => by
 refine ⟨_, rfl, fun j u hu => ?_⟩
 cases j with
 | succ j => simp at hu
 | zero =>
  simp at hu
  subst hu
  refine ⟨_, rfl, ?_⟩
  rw [addr_add]
  have := h i (.bool x) (by rw [List.getElem?_map, hx]; rfl)
  simpa [encBool, Enc.flat] using this
section
variable {P : Program} {n : Nat} {o : Oper} {g : Frm} {w0 : World} {ms : List Ent} {H0 H : Heap}
theorem OS.box_held {K : Value → Pred → Prop} {b : Nat} {Tb : TypeId} {cs : List Value} (k : ∀ H', Le H H' → (∀ j u, cs[j]? = some u → cellH H' ⟨b, j, none⟩ = some u) → OS P n o g (St w0 H0 ms H') K) :
 OS P n o g (St w0 H0 (.blk b Tb cs :: ms) H) K := fun a w f s => by
 obtain ⟨H', h1, h2, h3⟩ := s.box_held
 exact k H' h1 h2 a w f h3
theorem WP.box_held {F : Fence} {c : Code} {Q : Exit → Frm → Pred → Prop} {b : Nat} {Tb : TypeId} {cs : List Value} (k : ∀ H', Le H H' → (∀ j u, cs[j]? = some u → cellH H' ⟨b, j, none⟩ = some u) → WP F P n c g (St w0 H0 ms H') Q) :
 WP F P n c g (St w0 H0 (.blk b Tb cs :: ms) H) Q := fun a w f s => by
 obtain ⟨H', h1, h2, h3⟩ := s.box_held
 exact k H' h1 h2 a w f h3
end
theorem all_range_eqB : ∀ (xs ys : List Bool), xs.length = ys.length → ((List.range xs.length).all fun i => xs.getD i false == ys.getD i false) = (xs == ys)
 | [], [], _ => rfl
 | x :: xs, y :: ys, h => by
  have ih := all_range_eqB xs ys (by simpa using h)
  rw [List.length_cons, List.range_succ_eq_map, List.all_cons, List.all_map]
  simp only [List.getD_cons_zero, Function.comp_def, List.getD_cons_succ, ih]
  simp [List.cons_beq_cons]
 | [], _ :: _, h => by simp at h
 | _ :: _, [], h => by simp at h
theorem run_equalIn_bools {P : Program} (w : World) (d : Nat) (t e : TypeId) (n : Nat) (ht : P.underlying t = some (.array n e)) (he : P.underlying e = some .bool) (hsz : ∀ w, (sizeOf e).run P w = .ok 1 w)
 (xs ys : List Bool) (hx : xs.length = n) (hy : ys.length = n) :
 (Op.equalIn (d + 2) t (.agg (xs.map Value.bool).toArray) (.agg (ys.map Value.bool).toArray)).run P w = .ok (xs == ys) w := by
 rw [← all_range_eqB xs ys (hx.trans hy.symm), hx, List.range_eq_range', Op.equalIn]
 simp only [Sem.run_bind, run_underlying ht, Result.andThen_ok, hsz, Std.Legacy.Range.forIn_eq_forIn_range', Std.Legacy.Range.size, Nat.sub_zero, Nat.add_sub_cancel, Nat.div_one]
 have hl : ∀ i ∈ List.range' 0 n 1, i < n := fun i hi => by simpa using (List.mem_range'_1.1 hi).2
 generalize List.range' 0 n 1 = l at hl ⊢
 induction l with
 | nil => simp
 | cons i l ih =>
  have hi : i < n := hl i (by simp)
  have px : (part e (xs.map Value.bool).toArray (i * 1)).run P w = .ok (Value.bool (xs.getD i false)) w := by
   simp [part, isAgg, run_underlying he, List.getD, List.getElem?_eq_getElem (show i < xs.length by omega)]
  have py : (part e (ys.map Value.bool).toArray (i * 1)).run P w = .ok (Value.bool (ys.getD i false)) w := by
   simp [part, isAgg, run_underlying he, List.getD, List.getElem?_eq_getElem (show i < ys.length by omega)]
  have pe : (Op.equalIn (d + 1) e (Value.bool (xs.getD i false)) (Value.bool (ys.getD i false))).run P w = .ok (xs.getD i false == ys.getD i false) w := run_equalIn_bool' w d e _ _ he
  simp only [List.forIn_cons, Sem.run_bind, px, py, pe, Result.andThen_ok, List.all_cons]
  cases hb : (xs.getD i false == ys.getD i false)
  · simp
  · simp only [Bool.not_true, Bool.false_eq_true, if_false, Sem.run_pure, Result.andThen_ok, Bool.true_and]
    exact ih fun j hj => hl j (by simp [hj])
theorem ov_neq_bools {P : Program} {n : Nat} {o : Oper} {g : Frm} {S : Pred} {x y : Operand} {T T' e : TypeId} {m : Nat} {xs ys : List Bool} (hG : P.eqGuardType P.depth T = false) (ht : P.underlying T = some (.array m e)) (he : P.underlying e = some .bool) (hsz : ∀ w, (sizeOf e).run P w = .ok 1 w)
 (hl : xs.length = m) (hm : ys.length = m) (h : o.op = .binOp .neq T x y T') (hx : ev g x = some (.agg (xs.map Value.bool).toArray)) (hy : ev g y = some (.agg (ys.map Value.bool).toArray)) : OV P n o g S (.bool (!(xs == ys))) := fun a w f _ => by
 have h1 := run_equalIn_bools (P := P) w 9998 T e m ht he hsz xs ys hl hm
 have h2 := run_neq_struct (P := P) w T (xs.map Value.bool).toArray (ys.map Value.bool).toArray
 rw [h1] at h2
 have h3 := run_eqGuard_agg (P := P) w .neq T x y (xs.map Value.bool).toArray (ys.map Value.bool).toArray hG
 simp only [execOp, h, f.eval hx, f.eval hy, Sem.run_bind, h3, Result.andThen_ok, h2, Sem.run_pure]
section
variable {P : Program} {n : Nat} {o : Oper} {g : Frm} {w0 : World} {ms : List Ent} {H0 H : Heap}
theorem WL.within {F : Fence} {ops : Array Oper} {L : List Oper} {K : Frm → Pred → Prop} (k : ∀ w1, St w0 H0 ms H w1 → WL F P n ops L g (St w1 (hp w1) [] (hp w1)) K) : WL F P n ops L g (St w0 H0 ms H) K := fun a w f s =>
 k w s a w f (St.start w (hp w) (Le.refl _))
theorem St.box_row {w : World} {i b : Nat} {T : TypeId} {cs : List Value} (h : St w0 H0 ms H w) (hi : ms[i]? = some (.blk b T cs)) : RowAt (hp w) (some ⟨b, 0, none⟩) 0 cs := fun j u hu => by
 have hs : w.heap[b]? = some (.cells cs.toArray T (0, 0)) := h.sat _ (List.mem_of_getElem? hi)
 refine ⟨⟨b, 0, none⟩, rfl, ?_⟩
 rw [Nat.zero_add, addr_add, Nat.zero_add]
 unfold cellH hp
 rw [hs]
 simp [hu]
theorem os_makeSlice_n {T E : TypeId} {x y : Operand} {kl kc : IntKind} {m : Int} {N sz bytes : Nat} {z : Value} {cs : List Value} {K : Value → Pred → Prop} (hT : P.underlying T = some (.slice E)) (hI : (P.info? E).map (fun i => (i.zero, i.size, i.bytes)) = some (some z, sz, bytes))
 (hcs : (madeCells z.cells (N * sz)).toList = cs) (h : o.op = .makeSlice T x y) (hx : ev g x = some (.int kl m)) (hy : ev g y = some (.int kc m)) (hm : m = (N : Int)) (h1 : N * bytes ≤ 140737488355328) (h2 : N ≤ 4611686018427387904)
 (k : ∀ b, K (.slice (some ⟨b, 0, none⟩) N N) (St w0 H0 (.blk b E cs :: ms) H)) : OS P n o g (St w0 H0 ms H) K := fun a w f s next Q hn => by
 obtain ⟨i0, hi, he⟩ := Option.map_eq_some_iff.1 hI
 have e1 : i0.zero = some z := congrArg (fun p => p.1) he
 have e2 : i0.size = sz := congrArg (fun p => p.2.1) he
 have e3 : i0.bytes = bytes := congrArg (fun p => p.2.2) he
 have hb : (bytes : Int) * m ≤ 140737488355328 := by
  subst hm
  have : ((N * bytes : Nat) : Int) ≤ 140737488355328 := by omega
  rw [Int.mul_comm]
  simpa using this
 have hr := run_make (P := P) w T E i0 z hT hi e1 kl kc m m (by omega) (Int.le_refl _) (by rw [e3]; omega) (by omega)
 rw [e2, show m.toNat = N by omega] at hr
 unfold Oper.wp
 have hr' : (execOp a.eval o).run P w = .ok (.value (.slice (some ⟨w.heap.size, 0, none⟩) N N)) (w.alloc (.cells (madeCells z.cells (N * sz)) E)) := by
  simp [execOp, h, f.eval hx, f.eval hy, hr]
 rw [hr']
 have ha : madeCells z.cells (N * sz) = cs.toArray := by rw [← hcs]
 rw [ha]
 exact hn _ _ _ (k w.heap.size) (s.alloc E cs)
theorem St.blk_rowN {w : World} {b N sz : Nat} {E : TypeId} {cs : List Value} (h : St w0 H0 (.blk b E cs :: ms) H w) (hl : cs.length = N * sz) (hm : N ≤ maxLen) : St w0 H0 (.row E sz N (.slice (some ⟨b, 0, none⟩) N N) cs :: ms) H w := by
 have hs : w.heap[b]? = some (.cells cs.toArray E (0, 0)) := h.sat _ (List.mem_cons_self ..)
 have hb := (h.own _ (List.mem_cons_self ..) b rfl).1
 refine ⟨h.old, h.below, h.hold, fun e he => ?_, fun e he c hc => ?_, ?_⟩
 · rcases List.mem_cons.1 he with rfl | he
   · exact ⟨hl, .inr ⟨b, N, cs.toArray, rfl, hb, hs, Nat.le_refl _, hm, by simpa using hl, by rw [← hl]; simp⟩⟩
   · exact h.sat e (List.mem_cons_of_mem _ he)
 · rcases List.mem_cons.1 he with rfl | he
   · simp only [Ent.at, Value.ownBlock, Option.some.injEq] at hc
     subst hc
     exact h.own _ (List.mem_cons_self ..) b rfl
   · exact h.own e (List.mem_cons_of_mem _ he) c hc
 · obtain ⟨h1, h2⟩ := List.pairwise_cons.1 h.apart
   refine List.pairwise_cons.2 ⟨fun y hy c hc => ?_, h2⟩
   simp only [Ent.at, Value.ownBlock, Option.some.injEq] at hc
   subst hc
   exact h1 y hy b rfl
abbrev iterO (s : List UInt8) (p : Nat) : Obj := .stringIter ⟨s.toArray⟩ p
def decW (s : List UInt8) (p : Nat) : Nat × Nat := Utf8.decode ⟨s.toArray⟩ p
theorem os_range {T : TypeId} {x : Operand} {s : List UInt8} {K : Value → Pred → Prop} (hT : P.underlying T = some .string) (h : o.op = .range T x) (hx : ev g x = some (mkS s)) (k : ∀ b, K (pB b 0) (St w0 H0 (.obj b (iterO s 0) :: ms) H)) : OS P n o g (St w0 H0 ms H) K := fun a w f st next Q hn => by
 have hr := run_range_string (P := P) w T ⟨s.toArray⟩ hT
 have hr' : (execOp a.eval o).run P w = .ok (.value (pB w.heap.size 0)) (w.iter ⟨s.toArray⟩ 0) := by
  simp [execOp, h, f.eval hx, mkS, hr, pB]
 unfold Oper.wp
 rw [hr']
 exact hn _ _ _ (k _) (st.push ((Below.refl _ _).alloc (Nat.le_refl _) _) (World.iter_heap w _ _) (fun b hb => by simp [Ent.at] at hb; omega))
theorem os_next_t {x : Operand} {b p i : Nat} {s : List UInt8} {K : Value → Pred → Prop} (h : o.op = .next x true) (hx : ev g x = some (pB b 0)) (hi : ms[i]? = some (.obj b (iterO s p))) (hp : p < s.length)
 (k : K (.tuple #[.bool true, .int .i64 (p : Int), .int .i32 ((decW s p).1 : Int)]) (St w0 H0 (ms.set i (.obj b (iterO s (p + (decW s p).2)))) H)) : OS P n o g (St w0 H0 ms H) K := fun a w f st next Q hn => by
 have hk : w.heap[b]? = some (.stringIter ⟨s.toArray⟩ p) := st.sat _ (List.mem_of_getElem? hi)
 have hr := Lib.run_next_any_at (P := P) w b ⟨s.toArray⟩ p o.type hk (by simpa [ByteArray.size] using hp)
 have hr' : (execOp a.eval o).run P w = .ok (.value (.tuple #[.bool true, .int .i64 (p : Int), .int .i32 ((decW s p).1 : Int)])) (w.iterAt b ⟨s.toArray⟩ (p + (decW s p).2)) := by
  simp only [execOp, h, f.eval hx, pB, Sem.run_bind, hr, Result.andThen_ok, Sem.run_pure]
  rfl
 unfold Oper.wp
 rw [hr']
 refine hn _ _ _ k (st.turn hi ⟨rfl, rfl, rfl, by rw [Lib.iterAt_size]; exact Nat.le_refl _, fun j _ hj => Lib.iterAt_other w b j _ _ (fun e => hj (by rw [e]; rfl))⟩ (Lib.iterAt_heap w b _ p _ hk) (fun c hc => .inl hc))
theorem os_next_f {x : Operand} {b p i : Nat} {s : List UInt8} {K : Value → Pred → Prop} (h : o.op = .next x true) (hx : ev g x = some (pB b 0)) (hi : ms[i]? = some (.obj b (iterO s p))) (hp : ¬ p < s.length)
 (k : K (.tuple #[.bool false]) (St w0 H0 ms H)) : OS P n o g (St w0 H0 ms H) K := fun a w f st next Q hn => by
 have hk : w.heap[b]? = some (.stringIter ⟨s.toArray⟩ p) := st.sat _ (List.mem_of_getElem? hi)
 have hr := Lib.run_next_end_at (P := P) w b ⟨s.toArray⟩ p o.type hk (by simpa [ByteArray.size] using hp)
 have hr' : (execOp a.eval o).run P w = .ok (.value (.tuple #[.bool false])) w := by
  simp only [execOp, h, f.eval hx, pB, Sem.run_bind, hr, Result.andThen_ok, Sem.run_pure]
 unfold Oper.wp
 rw [hr']
 exact hn _ _ _ k st
end
section
variable {F : Fence} [Free F] {P : Program} {n : Nat} {g : Frm} {S : Pred} {K : Frm → Pred → Prop} {ops : Array Oper} {l : List Oper} {o : Oper} {d : Nat} {v : Value} {x : Operand} {w0 : World} {ms : List Ent} {H0 H : Heap}
theorem V (hq : (o.guard, o.dst, okDst d n) = (none, some d, true)) (h : OV P n o g S v) (k : WL F P n ops l ((d, v) :: g) S K) : WL F P n ops (o :: l) g S K := by
 obtain ⟨h1, h2⟩ := Prod.mk.inj hq
 obtain ⟨h2, h3⟩ := Prod.mk.inj h2
 exact wq h1 h2 h3 h k
theorem Vm (hq : (o.guard, o.dst, okDst d n, o.op, ev g x) = (none, some d, true, Op.move x, some v)) (k : WL F P n ops l ((d, v) :: g) S K) : WL F P n ops (o :: l) g S K := by
 obtain ⟨h1, h2⟩ := Prod.mk.inj hq
 obtain ⟨h2, h3⟩ := Prod.mk.inj h2
 obtain ⟨h3, h4⟩ := Prod.mk.inj h3
 obtain ⟨h4, h5⟩ := Prod.mk.inj h4
 exact wq h1 h2 h3 (ov_move h4 h5) k
theorem Va (hq : (o.guard, o.dst, okDst d n, o.op, ev g x) = (none, some d, true, Op.assign x, some v)) (k : WL F P n ops l ((d, v) :: g) S K) : WL F P n ops (o :: l) g S K := by
 obtain ⟨h1, h2⟩ := Prod.mk.inj hq
 obtain ⟨h2, h3⟩ := Prod.mk.inj h2
 obtain ⟨h3, h4⟩ := Prod.mk.inj h3
 obtain ⟨h4, h5⟩ := Prod.mk.inj h4
 exact wq h1 h2 h3 (ov_assign h4 h5) k
theorem Ve {vs : Array Value} {i : Nat} (hq : (o.guard, o.dst, okDst d n, o.op, ev g x, vs[i]?) = (none, some d, true, Op.extract x i, some (.tuple vs), some v)) (k : WL F P n ops l ((d, v) :: g) S K) : WL F P n ops (o :: l) g S K := by
 obtain ⟨h1, h2⟩ := Prod.mk.inj hq
 obtain ⟨h2, h3⟩ := Prod.mk.inj h2
 obtain ⟨h3, h4⟩ := Prod.mk.inj h3
 obtain ⟨h4, h5⟩ := Prod.mk.inj h4
 obtain ⟨h5, h6⟩ := Prod.mk.inj h5
 exact wq h1 h2 h3 (ov_extract h4 h5 h6) k
theorem Vl (i : Nat) {T T' : TypeId} {b q : Nat} {cs : List Value} (hA : ∀ w, (isAgg T).run P w = .ok false w) (hq : (o.guard, o.dst, okDst d n, o.op, ev g x, ms[i]?, cs[q]?) = (none, some d, true, Op.load T x, some (pB b q), some (.blk b T' cs), some v)) (k : WL F P n ops l ((d, v) :: g) (St w0 H0 ms H) K) : WL F P n ops (o :: l) g (St w0 H0 ms H) K := by
 obtain ⟨h1, h2⟩ := Prod.mk.inj hq
 obtain ⟨h2, h3⟩ := Prod.mk.inj h2
 obtain ⟨h3, h4⟩ := Prod.mk.inj h3
 obtain ⟨h4, h5⟩ := Prod.mk.inj h4
 obtain ⟨h5, h6⟩ := Prod.mk.inj h5
 obtain ⟨h6, h7⟩ := Prod.mk.inj h6
 exact wq h1 h2 h3 (ov_load_box hA h4 h5 h6 h7) k
theorem Vi (hq : (o.dst, okDst d n) = (some d, true)) (hi : Idle n ops g o) (k : WL F P n ops l ((d, undef) :: g) S K) : WL F P n ops (o :: l) g S K := by
 obtain ⟨h1, h2⟩ := Prod.mk.inj hq
 exact WL.idle hi h1 h2 k
end
section
variable {P : Program} {n fuel : Nat} {g : Frm} {S S₀ : Pred} {K : Frm → Pred → Prop} {L : List Oper} {o : Oper} {listed : Array Bool} {d : Nat} {v : Value}
theorem TQ (i : Nat) (hh : (Region.noSelect L.toArray && (Region.free .any L.toArray listed i && (Region.ready .any L.toArray listed).contains i)) = true) (hq : (L[i]?, o.guard, o.dst, okDst d n) = (some o, none, some d, true)) (h : OV P n o g S₀ v)
 (k : AL P n L.toArray S₀ fuel (listed.setIfInBounds i true) ((d, v) :: g) S K) : AL P n L.toArray S₀ (fuel + 1) listed g S K := by
 obtain ⟨h1, h2⟩ := Prod.mk.inj hq
 obtain ⟨h2, h3⟩ := Prod.mk.inj h2
 obtain ⟨h3, h4⟩ := Prod.mk.inj h3
 exact tq h1 hh h2 h3 h4 h k
end
theorem Sub.all {g g' : Frm} (h : g.map (fun p => look g' p.1) = g.map (fun p => some p.2)) : Sub g g' := by
 induction g with
 | nil => exact Sub.nil _
 | cons p r ih =>
  obtain ⟨t, v⟩ := p
  simp only [List.map_cons] at h
  obtain ⟨h1, h2⟩ := List.cons.inj h
  exact Sub.cons h1 (ih h2)
theorem Sub.dropn' {g : Frm} : ∀ (k : Nat) (g' : Frm), g'.drop k = g → ((g'.take k).all fun p => (look g p.1).isNone) = true → Sub g g'
 | 0, g', h, _ => by
  rw [List.drop_zero] at h
  subst h
  exact Sub.refl _
 | k + 1, [], h, _ => by
  rw [List.drop_nil] at h
  subst h
  exact Sub.refl _
 | k + 1, (t, v) :: r, h, ha => by
  rw [List.drop_succ_cons] at h
  rw [List.take_succ_cons, List.all_cons, Bool.and_eq_true] at ha
  exact Sub.skip (by simpa using ha.1) (Sub.dropn' k r h ha.2)
theorem Sub.dropn (k : Nat) {g g' : Frm} (h : (g'.drop k, (g'.take k).all fun p => (look g p.1).isNone) = (g, true)) : Sub g g' :=
 Sub.dropn' k g' (Prod.mk.inj h).1 (Prod.mk.inj h).2
theorem tn {g : Frm} {S : Pred} {Q : Exit → Frm → Pred → Prop} {K : Frm → Pred → Prop} (h : K g S) : thenQ K Q .normal g S := h
theorem bn {g : Frm} {S : Pred} {Q : Exit → Frm → Pred → Prop} {id : Nat} (h : Q .normal g S) : inBlockQ id Q .normal g S := h
section
variable {F : Fence} [Free F] {P : Program} {n : Nat} {g : Frm} {S : Pred} {K : Frm → Pred → Prop} {ops : Array Oper} {l : List Oper} {o : Oper} {d : Nat} {v : Value} {J : Frm → Prop}
theorem ws (hq : (o.guard, o.dst, okDst d n) = (none, some d, true)) (h : OS P n o g S fun v S' => WL F P n ops l ((d, v) :: g) S' K) : WL F P n ops (o :: l) g S K := by
 obtain ⟨h1, h2⟩ := Prod.mk.inj hq
 obtain ⟨h2, h3⟩ := Prod.mk.inj h2
 exact WL.step (Runs.free h1) h2 h3 h
theorem ws0 (hq : (o.guard, o.dst) = (none, none)) (h : OS P n o g S fun _ S' => WL F P n ops l g S' K) : WL F P n ops (o :: l) g S K := by
 obtain ⟨h1, h2⟩ := Prod.mk.inj hq
 exact WL.step0 (Runs.free h1) h2 h
theorem wo (hq : (o.guard, o.dst, okDst d n) = (none, some d, true)) (h : OQ P n o g S v) (k : WL F P n ops l ((d, v) :: g) S K) : WL F P n ops (o :: l) g S K := by
 obtain ⟨h1, h2⟩ := Prod.mk.inj hq
 obtain ⟨h2, h3⟩ := Prod.mk.inj h2
 exact WL.quiet (Runs.free h1) h2 h3 h k
theorem qf (hq : (o.guard, o.dst, okDst d n) = (none, some d, true)) (h : OV P n o g S v) (k : QL P n ops S l ((d, v) :: g) J) : QL P n ops S (o :: l) g J := by
 obtain ⟨h1, h2⟩ := Prod.mk.inj hq
 obtain ⟨h2, h3⟩ := Prod.mk.inj h2
 exact QL.quiet (Runs.free h1) h2 h3 (OV.quiet h) k
theorem qy {L : List Oper} {j t : Nat} {b c : Bool} (hc : c = b) (hq : (o.guard, (L[j]?).bind (·.dst), ev g (.tmp t), o.dst, okDst d n) = (some (j, b), some t, some (.bool c), some d, true)) (h : OV P n o g S v) (k : QL P n L.toArray S l ((d, v) :: g) J) : QL P n L.toArray S (o :: l) g J := by
 obtain ⟨h1, h2⟩ := Prod.mk.inj hq
 obtain ⟨h2, h3⟩ := Prod.mk.inj h2
 obtain ⟨h3, h4⟩ := Prod.mk.inj h3
 obtain ⟨h4, h5⟩ := Prod.mk.inj h4
 exact QL.quiet (Runs.yes h1 h2 h3 hc) h4 h5 (OV.quiet h) k
theorem wy {L : List Oper} {j t : Nat} {b c : Bool} (hc : c = b) (hq : (o.guard, (L[j]?).bind (·.dst), ev g (.tmp t), o.dst, okDst d n) = (some (j, b), some t, some (.bool c), some d, true)) (h : OV P n o g S v) (k : WL F P n L.toArray l ((d, v) :: g) S K) : WL F P n L.toArray (o :: l) g S K := by
 obtain ⟨h1, h2⟩ := Prod.mk.inj hq
 obtain ⟨h2, h3⟩ := Prod.mk.inj h2
 obtain ⟨h3, h4⟩ := Prod.mk.inj h3
 obtain ⟨h4, h5⟩ := Prod.mk.inj h4
 exact WL.quiet (Runs.yes h1 h2 h3 hc) h4 h5 (OV.quiet h) k
end
section
variable {P : Program} {n : Nat} {o : Oper} {g : Frm} {S : Pred}
theorem ov_makeIface {T : TypeId} {x : Operand} {v : Value} {d : TypeDesc} (hT : P.underlying T = some d) (hd : ∀ m, d ≠ .interface m) (h : o.op = .makeInterface T x) (hx : ev g x = some v) : OV P n o g S (.iface T v) := fun a w f _ => by
 simp only [execOp, h, f.eval hx, Instr.makeInterface, Sem.run_bind, run_underlying hT, Result.andThen_ok, Sem.run_pure]
end
section
variable {P : Program} {n : Nat} {o : Oper} {g : Frm} {w0 : World} {H0 H : Heap} {ms : List Ent}
theorem oq_conv {F : FuncId} {fx : Operand} {cap : List Value} {xs : List Operand} {ats : Array TypeId} {vs : List Value} {r : Value} (hc : ∀ args w, (callFunc F args).run P w = .ok (.enter F args) w) (h : o.op = .call { callee := .value fx, args := xs.toArray, argTypes := ats })
 (hv : ev g fx = some (.func (.func F) #[] cap.toArray)) (hx : evs g xs = some vs) (hk : ∀ w, St w0 H0 ms H w → ∃ H', Con P F (vs ++ cap) w H' fun v _ => v = r) : OQ P n o g (St w0 H0 ms H) r := fun a w f s => by
 have hr : (execOp a.eval o).run P w = .ok (.enter F (vs.toArray ++ cap.toArray)) w := by
  simp [execOp, h, resolve, invoke, f.eval hv, Deferred.ofValue, evs_arr hx a f, hc]
 rw [hr]
 obtain ⟨H', hk⟩ := hk w s
 rw [List.append_toArray]
 exact ⟨rfl, Calls.mono hk fun e w' ⟨v, h1, h2, h3⟩ => by subst h3; exact ⟨h1, s.grow h2⟩⟩
end

section
variable {P : Program} {n : Nat} {o : Oper} {g : Frm} {w0 : World} {H0 H : Heap} {ms : List Ent}
theorem St.selectT {ms' : List Ent} {w : World} (h : St w0 H0 ms H w) (k : Nat) (idx : List Nat) (hn : idx.Nodup) (hk : (idx.all fun i => Nat.blt i k) = true) (hm : idx.filterMap (ms[·]?) ++ ms.drop k = ms') : St w0 H0 ms' H w := by
 subst hm
 have h1 := h.select idx hn rfl
 have h2 := h.less (List.drop_sublist k ms)
 refine ⟨h.old, h.below, h.hold, fun e he => ?_, fun e he => ?_, ?_⟩
 · rcases List.mem_append.1 he with q | q
   · exact h1.sat e q
   · exact h2.sat e q
 · rcases List.mem_append.1 he with q | q
   · exact h1.own e q
   · exact h2.own e q
 · refine List.pairwise_append.2 ⟨h1.apart, h2.apart, fun a ha b hb => ?_⟩
   obtain ⟨i, hi, e1⟩ := List.mem_filterMap.1 ha
   have hik : i < k := by have := List.all_eq_true.1 hk i hi; simpa [Nat.blt_eq] using this
   obtain ⟨j, hj, e2⟩ := List.mem_iff_getElem.1 hb
   have hil := (List.getElem?_eq_some_iff.1 e1)
   obtain ⟨hil, e1⟩ := hil
   rw [List.getElem_drop] at e2
   have := List.pairwise_iff_getElem.1 h.apart i (k + j) hil (by rw [List.length_drop] at hj; omega) (by omega)
   rw [e1, e2] at this
   exact this
theorem St.comm {a b : List Ent} {w : World} (h : St w0 H0 (a ++ b) H w) : St w0 H0 (b ++ a) H w := by
 refine ⟨h.old, h.below, h.hold, fun e he => h.sat e ?_, fun e he => h.own e ?_, ?_⟩
 · rw [List.mem_append] at he ⊢; exact he.symm
 · rw [List.mem_append] at he ⊢; exact he.symm
 · obtain ⟨p, q, r⟩ := List.pairwise_append.1 h.apart
   exact List.pairwise_append.2 ⟨q, p, fun x hx y hy c hc hcy => r y hy x hx c hcy hc⟩
def BCon (P : Program) (F : FuncId) (vs : List Value) (w0 : World) (H0 : Heap) (ms : List Ent) (H : Heap) (R : Value → Heap → List Ent → Prop) : Prop :=
 ∀ w, St w0 H0 ms H w → Calls P F vs.toArray w fun e w' => ∃ r H' ms', e = .returned r ∧ Le H H' ∧ R r H' ms' ∧ St w0 H0 ms' H' w'
theorem bcon_of {f : FuncId} {fn : Func} {c : Code} {vs : List Value} {R : Value → Heap → List Ent → Prop}
 (hf : P.funcs[f]? = some fn) (hb : fn.body = some c) (m : Nat) (hnt : fn.ntmps = m) (hn : Nat.ble vs.length m = true)
 (h : WP Fence.wide P m c (argFrm 0 vs) (St w0 H0 ms H) (retQ m fn P fun v w' => ∃ H' ms', Le H H' ∧ R v H' ms' ∧ St w0 H0 ms' H' w')) (hm : Nat.ble vs.length markKey = true := by rfl) : BCon P f vs w0 H0 ms H R := fun w s =>
 Calls.mono (calls_of (w := w) _ s hf hb m hnt hn h hm) fun e w' ⟨v, he, H', ms', h1, h2, h3⟩ => ⟨v, H', ms', he, h1, h2, h3⟩
theorem os_bcon {F : FuncId} {xs : List Operand} {ats : Array TypeId} {vs : List Value} {R : Value → Heap → List Ent → Prop} {K : Value → Pred → Prop} (hc : ∀ args w, (callFunc F args).run P w = .ok (.enter F args) w) (h : o.op = .call { callee := .value (.func F), args := xs.toArray, argTypes := ats })
 (hx : evs g xs = some vs) (hk : BCon P F vs w0 H0 ms H R) (k : ∀ r H' ms', Le H H' → R r H' ms' → K r (St w0 H0 ms' H')) : OS P n o g (St w0 H0 ms H) K :=
 os_call hc h (evs_arr hx) fun w s => Calls.mono (hk w s) fun e w' ⟨r, H', ms', h1, h2, h3, h4⟩ => ⟨r, _, h1, k r H' ms' h2 h3, h4⟩
theorem os_bconv {F : FuncId} {fx : Operand} {cap : List Value} {xs : List Operand} {ats : Array TypeId} {vs : List Value} {R : Value → Heap → List Ent → Prop} {K : Value → Pred → Prop} (hc : ∀ args w, (callFunc F args).run P w = .ok (.enter F args) w) (h : o.op = .call { callee := .value fx, args := xs.toArray, argTypes := ats })
 (hv : ev g fx = some (.func (.func F) #[] cap.toArray)) (hx : evs g xs = some vs) (hk : BCon P F (vs ++ cap) w0 H0 ms H R) (k : ∀ r H' ms', Le H H' → R r H' ms' → K r (St w0 H0 ms' H')) : OS P n o g (St w0 H0 ms H) K :=
 os_callv hc h hv hx fun w s => by
  have := hk w s
  rw [List.append_toArray]
  exact Calls.mono this fun e w' ⟨r, H', ms', h1, h2, h3, h4⟩ => ⟨r, _, h1, k r H' ms' h2 h3, h4⟩

def YieldC (P : Program) (l : Nat) (vs : List Value) (w : World) (R : Bool → World → Prop) : Prop :=
 ∃ fid T assign body, (Instr.yield l vs.toArray).run P w = .ok (.round l fid T assign body) w ∧ RoundIn Fence.wide 0 P l fid T assign body w fun e w' => ∃ b, e = .returned (.bool b) ∧ R b w'
theorem YieldC.mono {l : Nat} {vs : List Value} {w : World} {R R' : Bool → World → Prop} (h : YieldC P l vs w R) (k : ∀ b w', R b w' → R' b w') : YieldC P l vs w R' := by
 obtain ⟨fid, T, a, b, h1, h2⟩ := h
 exact ⟨fid, T, a, b, h1, h2.mono fun e w' ⟨c, h3, h4⟩ => ⟨c, h3, k c w' h4⟩⟩
theorem roundIn_any {F : Fence} [hF : Free F] {m m' : Nat} {l : Nat} {fid : FuncId} {T : Array Value} {assign body : Code} {w : World} {R : Ending → World → Prop} (h : RoundIn Fence.wide m P l fid T assign body w R) : RoundIn F m' P l fid T assign body w R := by
 rcases hF.out with rfl | ⟨l', rfl⟩
 · exact ⟨h.1, fun c cs _ => h.2 c cs (fun d q => by cases q)⟩
 · exact ⟨h.1, fun c cs _ => h.2 c cs (fun d q => by cases q)⟩
theorem WL.yieldC {F : Fence} [Free F] {ops : Array Oper} {L : List Oper} {S : Pred} {K : Frm → Pred → Prop} {y : Operand} {xs : List Operand} {ats : Array TypeId} {vs : List Value} {l d : Nat} {K' : Bool → Pred → Prop}
 (hr : Runs n ops g o) (hd : o.dst = some d) (hn : okDst d n = true) (h : o.op = .call { callee := .value y, args := xs.toArray, argTypes := ats }) (hy : ev g y = some (.func (.yield l) #[] #[])) (hx : evs g xs = some vs)
 (hc : ∀ w, S w → YieldC P l vs w fun b w' => ∃ S', K' b S' ∧ S' w') (k : ∀ b S', K' b S' → WL F P n ops L ((d, .bool b) :: g) S' K) :
 WL F P n ops (o :: L) g S K := fun a w f s Q hQ => by
 obtain ⟨fid, T, assign, body, h1, h2⟩ := hc w s
 refine wpList_do (hr a f) ⟨fun _ _ => Free.fn _, ?_⟩
 have hrun : (o.semAt F.round a.eval).run P w = .ok (.round l fid T assign body) w := by
  rw [Oper.semAt_eq _ _ _ (fun c hc => by rw [h] at hc; cases hc)]
  simp only [execOp, h, resolve, Sem.run_bind]
  simp [invoke, f.eval hy, Deferred.ofValue, evs_arr hx a f]
  simpa using h1
 rw [hrun]
 refine ⟨fun q => (by rw [Free.depth] at q; cases q), (roundIn_any h2).mono ?_⟩
 rintro e w' ⟨b, rfl, S', hK, hS⟩
 exact k b S' hK _ _ (by rw [hd]; exact f.put hn _) hS Q hQ
structure Yields (P : Program) (w0 : World) (H0 : Heap) (y : Value) {σ X : Type} (E : X → List Value → Heap → Prop) (step : σ → X → Option (Bool × σ)) (T T' : σ → Heap → List Ent → Prop) : Prop where
 mono : ∀ s H H' ms, Le H H' → T s H ms → T s H' ms
 mono' : ∀ s H H' ms, Le H H' → T' s H ms → T' s H' ms
 call : ∃ l, y = .func (.yield l) #[] #[] ∧ ∀ s x b s' vs H ms fr, step s x = some (b, s') → E x vs H → T s H ms → ∀ w, St w0 H0 (ms ++ fr) H w →
  YieldC P l vs w fun b' w' => b' = b ∧ ∃ H' ms', Le H H' ∧ (cond b (T s' H' ms') (T' s' H' ms')) ∧ St w0 H0 (ms' ++ fr) H' w'
theorem Yields.cells {y : Value} {σ X : Type} {E : X → List Value → Heap → Prop} {step : σ → X → Option (Bool × σ)} {T T' : σ → Heap → List Ent → Prop} (h : Yields P w0 H0 y E step T T') : y.cells = [y].toArray := by
 obtain ⟨l, rfl, _⟩ := h.call
 rfl
theorem WL.yields {F : Fence} [Free F] {ops : Array Oper} {L : List Oper} {K : Frm → Pred → Prop} {y : Operand} {xs : List Operand} {ats : Array TypeId} {vs : List Value} {d : Nat} {yv : Value} {σ X : Type} {E : X → List Value → Heap → Prop} {step : σ → X → Option (Bool × σ)} {T T' : σ → Heap → List Ent → Prop} {s : σ} {x : X} {b : Bool} {s' : σ} {fr : List Ent}
 (hr : Runs n ops g o) (hd : o.dst = some d) (hn : okDst d n = true) (h : o.op = .call { callee := .value y, args := xs.toArray, argTypes := ats }) (hy : ev g y = some yv) (hx : evs g xs = some vs)
 (hY : Yields P w0 H0 yv E step T T') (hm : step s x = some (b, s')) (hE : E x vs H) (hT : T s H ms) (k : ∀ H' ms', Le H H' → cond b (T s' H' ms') (T' s' H' ms') → WL F P n ops L ((d, .bool b) :: g) (St w0 H0 (fr ++ ms') H') K) :
 WL F P n ops (o :: L) g (St w0 H0 (fr ++ ms) H) K := by
 obtain ⟨l, rfl, hc⟩ := hY.call
 refine WL.yieldC (K' := fun b' S' => b' = b ∧ ∃ H' ms', Le H H' ∧ (cond b (T s' H' ms') (T' s' H' ms')) ∧ S' = St w0 H0 (fr ++ ms') H') hr hd hn h hy hx (fun w hS => (hc s x b s' vs H ms fr hm hE hT w hS.comm).mono ?_) ?_
 · rintro b' w' ⟨rfl, H', ms', h1, h2, h3⟩
   exact ⟨_, ⟨rfl, H', ms', h1, h2, rfl⟩, h3.comm⟩
 · rintro b' S' ⟨rfl, H', ms', h1, h2, rfl⟩
   exact k H' ms' h1 h2
theorem cond_t {A B : Prop} {c : Bool} (h : c = true) (k : cond c A B) : A := by subst h; exact k
theorem cond_f {A B : Prop} {c : Bool} (h : c = false) (k : cond c A B) : B := by subst h; exact k
def TH {yv : Value} {σ X : Type} {E : X → List Value → Heap → Prop} {step : σ → X → Option (Bool × σ)} {T T' : σ → Heap → List Ent → Prop} (hY : Yields P w0 H0 yv E step T T') (s : σ) (H : Heap) (ms : List Ent) : Prop := T s H ms
def TH' {yv : Value} {σ X : Type} {E : X → List Value → Heap → Prop} {step : σ → X → Option (Bool × σ)} {T T' : σ → Heap → List Ent → Prop} (hY : Yields P w0 H0 yv E step T T') (s : σ) (H : Heap) (ms : List Ent) : Prop := T' s H ms
section
variable {yv : Value} {σ X : Type} {E : X → List Value → Heap → Prop} {step : σ → X → Option (Bool × σ)} {T T' : σ → Heap → List Ent → Prop} {hY : Yields P w0 H0 yv E step T T'} {s : σ} {H' : Heap}
theorem TH.mono (h : TH hY s H ms) (k : Le H H') : TH hY s H' ms := hY.mono _ _ _ _ k h
theorem TH'.mono (h : TH' hY s H ms) (k : Le H H') : TH' hY s H' ms := hY.mono' _ _ _ _ k h
end
theorem WL.yields2 {F : Fence} [Free F] {ops : Array Oper} {L : List Oper} {K : Frm → Pred → Prop} {y : Operand} {xs : List Operand} {ats : Array TypeId} {vs : List Value} {d : Nat} {yv : Value} {σ X : Type} {E : X → List Value → Heap → Prop} {step : σ → X → Option (Bool × σ)} {T T' : σ → Heap → List Ent → Prop} {s : σ} {x : X} {r : Bool × σ} (fr : List Ent)
 (hr : Runs n ops g o) (hd : o.dst = some d) (hn : okDst d n = true) (h : o.op = .call { callee := .value y, args := xs.toArray, argTypes := ats }) (hy : ev g y = some yv) (hx : evs g xs = some vs)
 (hY : Yields P w0 H0 yv E step T T') (hm : step s x = some r) (hE : E x vs H) (hT : TH hY s H ms)
 (kt : r.1 = true → ∀ H' ms', Le H H' → TH hY r.2 H' ms' → WL F P n ops L ((d, .bool true) :: g) (St w0 H0 (fr ++ ms') H') K)
 (kf : r.1 = false → ∀ H' ms', Le H H' → TH' hY r.2 H' ms' → WL F P n ops L ((d, .bool false) :: g) (St w0 H0 (fr ++ ms') H') K) :
 WL F P n ops (o :: L) g (St w0 H0 (fr ++ ms) H) K := by
 obtain ⟨b, s'⟩ := r
 refine WL.yields hr hd hn h hy hx hY hm hE hT fun H' ms' h1 h2 => ?_
 cases b with
 | true => exact kt rfl H' ms' h1 h2
 | false => exact kf rfl H' ms' h1 h2
def IterR {yv : Value} {σ X : Type} {E : X → List Value → Heap → Prop} {step : σ → X → Option (Bool × σ)} {T T' : σ → Heap → List Ent → Prop} (hY : Yields P w0 H0 yv E step T T') (fr : List Ent) (r : Bool × σ) (H' : Heap) (ms' : List Ent) : Prop :=
 ∃ tl', ms' = fr ++ tl' ∧ cond r.1 (TH hY r.2 H' tl') (TH' hY r.2 H' tl')
theorem os_icall {F : FuncId} {fx : Operand} {cap : List Value} {xs : List Operand} {ats : Array TypeId} {vs : List Value} {K : Value → Pred → Prop} {yv : Value} {σ X : Type} {E : X → List Value → Heap → Prop} {step : σ → X → Option (Bool × σ)} {T T' : σ → Heap → List Ent → Prop} {hY : Yields P w0 H0 yv E step T T'} {r : Bool × σ} (fr : List Ent) (hc : ∀ args w, (callFunc F args).run P w = .ok (.enter F args) w) (h : o.op = .call { callee := .value fx, args := xs.toArray, argTypes := ats })
 (hv : ev g fx = some (.func (.func F) #[] cap.toArray)) (hx : evs g xs = some vs) (hk : BCon P F (vs ++ cap) w0 H0 (fr ++ ms) H fun v H' ms' => v = .bool r.1 ∧ IterR hY fr r H' ms')
 (kt : r.1 = true → ∀ H' ms', Le H H' → TH hY r.2 H' ms' → K (.bool true) (St w0 H0 (fr ++ ms') H'))
 (kf : r.1 = false → ∀ H' ms', Le H H' → TH' hY r.2 H' ms' → K (.bool false) (St w0 H0 (fr ++ ms') H')) : OS P n o g (St w0 H0 (fr ++ ms) H) K :=
 os_bconv hc h hv hx hk fun v H' ms' hle hR => by
  obtain ⟨b, s'⟩ := r
  obtain ⟨rfl, tl', rfl, h2⟩ := hR
  cases b with
  | true => exact kt rfl H' tl' hle h2
  | false => exact kf rfl H' tl' hle h2
theorem rowAt_box {b : Nat} {cs : List Value} (h : ∀ j u, cs[j]? = some u → cellH H ⟨b, j, none⟩ = some u) : RowAt H (some ⟨b, 0, none⟩) 0 cs := fun j u e => ⟨_, rfl, by rw [addr_add]; simpa using h j u e⟩
theorem St.perm {ms' : List Ent} {w : World} (h : St w0 H0 ms H w) (k : ms.Perm ms') : St w0 H0 ms' H w :=
 ⟨h.old, h.below, h.hold, fun e he => h.sat e (k.mem_iff.2 he), fun e he => h.own e (k.mem_iff.2 he), (k.pairwise_iff (fun {x y} q b hy hx => q b hx hy)).1 h.apart⟩
theorem St.frin {e a t b : List Ent} {w : World} (h : St w0 H0 ((e ++ (a ++ t)) ++ b) H w) : St w0 H0 (e ++ ((a ++ b) ++ t)) H w := h.perm (by
 rw [List.append_assoc, List.append_assoc, List.append_assoc]
 exact (List.perm_append_comm.append_left a).append_left e)
theorem St.frout {e a t b : List Ent} {w : World} (h : St w0 H0 (e ++ ((a ++ b) ++ t)) H w) : St w0 H0 ((e ++ (a ++ t)) ++ b) H w := h.perm (by
 rw [List.append_assoc, List.append_assoc, List.append_assoc]
 exact (List.perm_append_comm.append_left a).append_left e)
def VCalls (P : Program) (v : Value) (vs : List Value) (w : World) (R : Ending → World → Prop) : Prop :=
 ∃ (F : FuncId) (cap : List Value), v = .func (.func F) #[] cap.toArray ∧ (∀ args w, (callFunc F args).run P w = .ok (.enter F args) w) ∧ Calls P F (vs ++ cap).toArray w R
theorem VCalls.mono {v : Value} {vs : List Value} {w : World} {R R' : Ending → World → Prop} (h : VCalls P v vs w R) (k : ∀ e w', R e w' → R' e w') : VCalls P v vs w R' := by
 obtain ⟨F, cap, h1, h2, h3⟩ := h
 exact ⟨F, cap, h1, h2, h3.mono k⟩
def VIter (P : Program) (w0 : World) (H0 : Heap) (v : Value) {yv : Value} {σ X : Type} {E : X → List Value → Heap → Prop} {step : σ → X → Option (Bool × σ)} {T T' : σ → Heap → List Ent → Prop} (hY : Yields P w0 H0 yv E step T T') (tl : List Ent) (H : Heap) (r : Bool × σ) : Prop :=
 ∀ fr w, St w0 H0 (fr ++ tl) H w → VCalls P v [yv] w fun e w' => ∃ rv H' ms', e = .returned rv ∧ Le H H' ∧ IterR hY fr r H' ms' ∧ St w0 H0 ms' H' w'
theorem yieldC_of {i l D nr : Nat} {R : LoopState → Option Code → Obj} {ps : List Tmp} {assign body : Code} {gr : Frm} {vs : List Value} {K : Bool → Pred → Prop} {w : World}
 (hrec : RecOf R nr gr ps assign body D) (s : St w0 H0 ms H w) (hi : ms[i]? = some (.obj l (R .ready none))) (hps : (ps.all fun p => okDst p nr) = true) (hlen : ps.length = vs.length)
 (k : WP (Fence.wide.inRound l) P nr assign (parFrm ps vs gr) (St w0 H0 ms H) (thenQ (beginQ P w0 H0 nr l R body (roundQ w0 H0 l R K)) noQ)) :
 YieldC P l vs w fun b w' => ∃ S', K b S' ∧ S' w' := by
 obtain ⟨fid, T, hR, hT⟩ := hrec
 obtain rfl : R = fun st pd => lrec st pd fid T ps.toArray assign body D := funext fun st => funext fun pd => hR st pd
 have hl : w.heap[l]? = some (lrec .ready none fid T ps.toArray assign body D) := s.sat _ (List.mem_of_getElem? hi)
 have h1 := run_yield (P := P) (args := vs.toArray) hl (by simp [hlen])
 refine ⟨_, _, _, _, h1, ?_⟩
 have key : RoundIn Fence.wide 0 P l fid ((ps.zip vs).foldl (fun tmps (x : Tmp × Value) => tmps.setIfInBounds x.1 x.2) T) assign body w fun e w' => ∃ b, e = .returned (.bool b) ∧ ∃ S', K b S' ∧ S' w' := by
  refine roundIn_of_wpIn trivial ?_
  refine Code.wpIn_mono ?_ (k _ w (fits_par ps vs gr T hps hlen hT) s)
  rintro e a1 w1 ⟨g', S', hf', hs', hq⟩
  cases e with
  | normal =>
   obtain ⟨j, ms1, H1, rfl, hj, hbody⟩ := hq
   have hl1 : w1.heap[l]? = some (lrec .ready none fid T ps.toArray assign body D) := hs'.sat _ (List.mem_of_getElem? hj)
   refine ⟨_, run_beginRound hl1 rfl, ?_⟩
   refine Code.wpIn_mono ?_ (hbody a1 _ hf' (hs'.obj_put hj))
   rintro e2 a2 w2 ⟨g2, S2, hf2, hs2, hq2⟩
   cases e2 with
   | normal =>
    obtain ⟨j2, ms2, H2, hS2, hj2, hk⟩ := hq2
    replace hs2 := hS2 _ hs2
    have hl2 : w2.heap[l]? = some (lrec .busy none fid T ps.toArray assign body D) := hs2.sat _ (List.mem_of_getElem? hj2)
    exact ⟨_, _, run_endRound none hl2, _, rfl, _, hk, hs2.obj_put hj2⟩
   | ret =>
    obtain ⟨j2, ms2, H2, hS2, hj2, hk⟩ := hq2
    replace hs2 := hS2 _ hs2
    have hl2 : w2.heap[l]? = some (lrec .busy none fid T ps.toArray assign body D) := hs2.sat _ (List.mem_of_getElem? hj2)
    exact ⟨_, _, run_endRound (some .ret) hl2, _, rfl, _, hk, hs2.obj_put hj2⟩
   | exit id =>
    obtain ⟨j2, ms2, H2, hS2, hj2, hk⟩ := hq2
    replace hs2 := hS2 _ hs2
    have hl2 : w2.heap[l]? = some (lrec .busy none fid T ps.toArray assign body D) := hs2.sat _ (List.mem_of_getElem? hj2)
    exact ⟨_, _, run_endRound (some (.exit id)) hl2, _, rfl, _, hk, hs2.obj_put hj2⟩
   | goto _ => exact hq2.elim
   | panic _ => exact hq2.elim
   | outgrown => exact hq2.elim
  | exit id => exact hq.elim
  | ret => exact hq.elim
  | goto _ => exact hq.elim
  | panic _ => exact hq.elim
  | outgrown => exact hq.elim
 simpa using key
theorem condT {A B : Prop} (h : A) : cond true A B := h
theorem condF {A B : Prop} (h : B) : cond false A B := h
theorem yields_call {σ : Type} {T T' : σ → Heap → List Ent → Prop} {b : Bool} {q : σ} {fr : List Ent} {i l D nr : Nat} {R : LoopState → Option Code → Obj} {ps : List Tmp} {assign body : Code} {gr : Frm} {vs : List Value} {w : World}
 (hrec : RecOf R nr gr ps assign body D) (s : St w0 H0 (ms ++ fr) H w) (hi : (ms ++ fr)[i]? = some (.obj l (R .ready none))) (hps : (ps.all fun p => okDst p nr) = true) (hlen : ps.length = vs.length)
 (k : WP (Fence.wide.inRound l) P nr assign (parFrm ps vs gr) (St w0 H0 (ms ++ fr) H) (thenQ (beginQ P w0 H0 nr l R body (roundQ w0 H0 l R fun b' S' => b' = b ∧ ∃ H' ms', Le H H' ∧ cond b (T q H' ms') (T' q H' ms') ∧ ∀ w, S' w → St w0 H0 (ms' ++ fr) H' w)) noQ)) :
 YieldC P l vs w fun b' w' => b' = b ∧ ∃ H' ms', Le H H' ∧ cond b (T q H' ms') (T' q H' ms') ∧ St w0 H0 (ms' ++ fr) H' w' :=
 (yieldC_of hrec s hi hps hlen k).mono fun b' w' ⟨S', ⟨e, H', ms', h1, h2, h3⟩, h4⟩ => ⟨e, H', ms', h1, h2, h3 w' h4⟩
theorem WP.rangeC {gf : Operand} {ps : List Tmp} {assign body : Code} {v : Value} {Q : Exit → Frm → Pred → Prop} (hg : ev g gf = some v)
 (k : ∀ (l D : Nat) (R : LoopState → Option Code → Obj), RecOf R n g ps assign body D → ∀ w, St w0 H0 (.obj l (R .ready none) :: .obj D (.deferred (some [])) :: ms) H w →
  VCalls P v [.func (.yield l) #[] #[]] w fun e w' => ∃ r, e = .returned r ∧ ∃ S', AfterQ w0 H0 l D R g Q S' ∧ S' w')
 (hm : look g markKey = some (.bool false) := by rfl) : WP Fence.wide P n (.rangeFunc gf ps.toArray assign body) g (St w0 H0 ms H) Q := fun a w f s => by
 have hd : a.defers = [] := f.marks _ hm
 have ha : a = ⟨a.tmps, []⟩ := by cases a; simp_all
 refine wpIn_rangeFunc fun fid _ => ?_
 have hlrec : (Instr.enterLoop fid a.tmps ps.toArray assign body Fence.wide.round).run P w = _ := run_enterLoop_outer (P := P) (w := w) fid a.tmps ps.toArray assign body
 have s1 : St w0 H0 (.obj w.heap.size (.deferred (some [])) :: ms) H (w.alloc (.deferred (some []))) :=
  s.push ((Below.refl _ w).alloc (Nat.le_refl _) _) (World.alloc_heap_new w _) (fun b hb => by cases hb; exact Nat.le_refl _)
 have s2 := s1.push (e := .obj (w.heap.size + 1) (lrec .ready none fid a.tmps ps.toArray assign body w.heap.size)) ((Below.refl _ _).alloc (Nat.le_refl _) _)
  (by have := World.alloc_heap_new (w.alloc (.deferred (some []))) (lrec .ready none fid a.tmps ps.toArray assign body w.heap.size); rw [World.size_alloc] at this; exact this) (fun b hb => by cases hb; simp)
 obtain ⟨F2, cap, rfl, hc, hcall⟩ := k (w.heap.size + 1) w.heap.size (fun st pd => lrec st pd fid a.tmps ps.toArray assign body w.heap.size) ⟨fid, a.tmps, fun _ _ => rfl, by rw [← ha]; exact f⟩ _ s2
 refine ⟨w.heap.size + 1, _, _, { target := .fn (.func F2) cap.toArray, args := #[.func (.yield (w.heap.size + 1)) #[] #[]] }, (w.alloc (.deferred (some []))).alloc (lrec .ready none fid a.tmps ps.toArray assign body w.heap.size), F2, _, _, hlrec, ?_, fun _ _ => trivial, ?_, fun h => (by cases h), callsIn_wide.2 (Calls.mono hcall ?_)⟩
 · simp [resolve, rangeCall, f.eval hg, Deferred.ofValue]
   exact ⟨rfl, rfl⟩
 · have := hc (#[.func (.yield (w.heap.size + 1)) #[] #[]] ++ cap.toArray) ((w.alloc (.deferred (some []))).alloc (lrec .ready none fid a.tmps ps.toArray assign body w.heap.size))
   simp only [invoke]
   simpa using this
 · rintro e w3 ⟨v, rfl, S', ⟨st, pd, ms', H', rfl, hst, hj⟩, s3⟩
   have hl : w3.heap[w.heap.size + 1]? = some (lrec st pd fid a.tmps ps.toArray assign body w.heap.size) := s3.sat _ (List.mem_cons_self ..)
   have s4 := (s3.obj_put (i := 0) (y := lrec .exhausted pd fid a.tmps ps.toArray assign body w.heap.size) rfl).less (List.sublist_cons_self _ _)
   have hfit : Fits n ((markKey, .int .i64 w.heap.size) :: g) { a with defers := [{ target := .collected w.heap.size, args := #[] }] ++ a.defers } := by
    refine ⟨fun v e => ?_, f.size, fun t v e ht => f.slots t v (by rw [look_cons, if_neg (fun q => ht q.symm)] at e; exact e) ht⟩
    rw [look_cons, if_pos rfl] at e
    cases e
    rw [hd]
    simp [defersOf]
   refine ⟨pd, _, run_endLoop hl hst, ?_⟩
   cases pd with
   | none => exact ⟨_, _, hfit, s4, hj⟩
   | some c =>
    cases c with
    | ret => exact wpIn_ret ⟨_, _, hfit, s4, hj⟩
    | exit id => exact wpIn_exit ⟨_, _, hfit, s4, hj⟩
    | _ => exact hj.elim
end
section
variable {P : Program} {n : Nat} {o : Oper} {g : Frm} {S : Pred}
end
def marksV (Ds : List Nat) : Value := .tuple (Ds.map fun (D : Nat) => Value.int .i64 (D : Int)).toArray
def dS (Ds : List Nat) : List Ent := Ds.map fun D => .obj D (.deferred (some []))
theorem defersOf_marks (Ds : List Nat) : defersOf (marksV Ds) = Ds.map fun D => { target := .collected D, args := #[] } := by
 simp [defersOf, marksV, Function.comp_def]
section
variable {P : Program} {n : Nat} {g : Frm} {w0 : World} {H0 H : Heap} {ms : List Ent}
def takeM (S' : Pred) : List Nat → Pred
 | [], w => S' w
 | D :: Ds, w => w.heap[D]? = some (.deferred (some [])) ∧ takeM S' Ds (w.putObj D (.deferred none))
theorem take_dS : ∀ (Ds : List Nat) (w : World), St w0 H0 (dS Ds ++ ms) H w → takeM (St w0 H0 ms H) Ds w
 | [], w, s => s
 | D :: Ds, w, s => ⟨s.sat _ (List.mem_cons_self ..), take_dS Ds _ ((s.obj_put (i := 0) (y := .deferred none) rfl).less (List.sublist_cons_self _ _))⟩
def retM (n : Nat) (fn : Func) (P : Program) (R : Value → World → Prop) : Exit → Frm → Pred → Prop
 | .ret, g, S | .normal, g, S => ∃ (v : Value) (S' : Pred) (Ds : List Nat), look g markKey = some (marksV Ds) ∧ (∀ w, S w → takeM S' Ds w) ∧
  (∀ a w, Fits n g a → S' w → (results fn a.tmps).run P w = .ok v w) ∧ ∀ w, S' w → R v w
 | _, _, _ => False
theorem callsM_of {P : Program} {f : FuncId} {fn : Func} {c : Code} {vs : List Value} {w : World} {R : Value → World → Prop} (S : Pred) (hs : S w)
 (hf : P.funcs[f]? = some fn) (hb : fn.body = some c) (n : Nat) (hnt : fn.ntmps = n) (hn : Nat.ble vs.length n = true) (h : WP Fence.wide P n c ((markKey, marksV []) :: argFrm 0 vs) S (retM n fn P R)) (hm : Nat.ble vs.length markKey = true) :
 Calls P f vs.toArray w fun e w' => ∃ v, e = .returned v ∧ R v w' := by
 subst hnt
 have hn' : vs.length ≤ fn.ntmps := Nat.le_of_ble_eq_true hn
 have fits : Fits fn.ntmps ((markKey, marksV []) :: argFrm 0 vs) { tmps := vs.toArray ++ Array.replicate (fn.ntmps - vs.toArray.size) undef, defers := [] } := by
  refine ⟨fun v e => ?_, by simp; omega, fun t v e ht => ?_⟩
  · rw [look_cons, if_pos rfl] at e
    cases e
    rw [defersOf_marks]
    rfl
  · rw [look_cons, if_neg (fun q => ht q.symm)] at e
    have := (look_argFrm vs 0 t v ht e).2
    simp only [Nat.sub_zero] at this
    have hlt := (List.getElem?_eq_some_iff.1 this).1
    rw [Array.getElem?_append_left (by simpa using hlt)]
    simpa using this
 refine (callsIn_wide (n := 0)).1 (callsIn_of_wp_marks hf hb trivial (Code.wpIn_mono ?_ (h _ w fits hs)))
 have leave : ∀ {g' : Frm} {S' : Pred} {a : Act} {w : World}, Fits fn.ntmps g' a → S' w → retM fn.ntmps fn P R .ret g' S' → LeavesInM Fence.wide 0 P fn a.tmps (fun e w' => ∃ v, e = .returned v ∧ R v w') a.defers .returning w := by
  intro g' S' a w hf' hs' hq
  obtain ⟨v, S2, Ds, h1, h2, hres, hR⟩ := hq
  rw [hf'.marks _ h1, defersOf_marks]
  have key : ∀ (Ds : List Nat) (w : World), takeM S2 Ds w → LeavesInM Fence.wide 0 P fn a.tmps (fun e w' => ∃ v, e = .returned v ∧ R v w') (Ds.map fun D => { target := .collected D, args := #[] }) .returning w := by
   intro Ds
   induction Ds with
   | nil => intro w hw; exact ⟨v, hres a w hf' hw, v, rfl, hR w hw⟩
   | cons D Ds ih => intro w hw; exact ⟨by simp, .inl ⟨D, _, by simp, run_takeDeferred hw.1, ih _ hw.2⟩⟩
  exact key Ds w (h2 w hs')
 rintro e a w ⟨g', S', hf', hs', hq⟩
 cases e with
 | normal => exact leave hf' hs' hq
 | ret => exact leave hf' hs' hq
 | exit id => exact hq.elim
 | goto l => exact hq.elim
 | panic c => exact hq.elim
 | outgrown => exact hq.elim
theorem bconM_of {f : FuncId} {fn : Func} {c : Code} {vs : List Value} {R : Value → Heap → List Ent → Prop}
 (hf : P.funcs[f]? = some fn) (hb : fn.body = some c) (m : Nat) (hnt : fn.ntmps = m) (hn : Nat.ble vs.length m = true)
 (h : WP Fence.wide P m c ((markKey, marksV []) :: argFrm 0 vs) (St w0 H0 ms H) (retM m fn P fun v w' => ∃ H' ms', Le H H' ∧ R v H' ms' ∧ St w0 H0 ms' H' w')) (hm : Nat.ble vs.length markKey = true := by rfl) : BCon P f vs w0 H0 ms H R := fun w s =>
 Calls.mono (callsM_of (w := w) _ s hf hb m hnt hn h hm) fun e w' ⟨v, he, H', ms', h1, h2, h3⟩ => ⟨v, H', ms', he, h1, h2, h3⟩
theorem St.dsin {D : Nat} {Ds : List Nat} {e fr t : List Ent} {w : World} (h : St w0 H0 (.obj D (.deferred (some [])) :: (e ++ ((dS Ds ++ fr) ++ t))) H w) : St w0 H0 (e ++ ((dS (D :: Ds) ++ fr) ++ t)) H w :=
 h.perm (List.perm_middle (l₁ := e) (a := .obj D (.deferred (some []))) (l₂ := (dS Ds ++ fr) ++ t)).symm
theorem dsout {Ds : List Nat} {e fr t : List Ent} {w : World} (h : St w0 H0 (e ++ ((dS Ds ++ fr) ++ t)) H w) : takeM (St w0 H0 (e ++ (fr ++ t)) H) Ds w :=
 take_dS Ds w (h.perm (by
  rw [List.append_assoc]
  rw [← List.append_assoc, ← List.append_assoc (dS Ds)]
  exact List.perm_append_comm.append_right _))
theorem retM_ret {fn : Func} {R : Value → World → Prop} {rs : List ResultVar} {vs : List Value} {v : Value} {Ds : List Nat} {fr t : List Ent} (e : List Ent) (hr : fn.results = rs.toArray) (h : Res P g (St w0 H0 (e ++ (fr ++ t)) H) rs vs) (hv : tupled vs = v) (hR : ∀ w, St w0 H0 (e ++ (fr ++ t)) H w → R v w) (hm : look g markKey = some (marksV Ds) := by rfl) : retM n fn P R .ret g (St w0 H0 (e ++ ((dS Ds ++ fr) ++ t)) H) :=
 ⟨tupled vs, _, Ds, hm, fun _ s => dsout s, results_of hr h, by rw [hv]; exact hR⟩
theorem retM_end {fn : Func} {R : Value → World → Prop} {rs : List ResultVar} {vs : List Value} {v : Value} {Ds : List Nat} {fr t : List Ent} (e : List Ent) (hr : fn.results = rs.toArray) (h : Res P g (St w0 H0 (e ++ (fr ++ t)) H) rs vs) (hv : tupled vs = v) (hR : ∀ w, St w0 H0 (e ++ (fr ++ t)) H w → R v w) (hm : look g markKey = some (marksV Ds) := by rfl) : retM n fn P R .normal g (St w0 H0 (e ++ ((dS Ds ++ fr) ++ t)) H) :=
 ⟨tupled vs, _, Ds, hm, fun _ s => dsout s, results_of hr h, by rw [hv]; exact hR⟩
def AfterQM (w0 : World) (H0 : Heap) (l : Nat) (R : LoopState → Option Code → Obj) (g : Frm) (Q : Exit → Frm → Pred → Prop) (S : Pred) : Prop :=
 ∃ (st : LoopState) (pd : Option Code) (ms : List Ent) (H : Heap) (S' : Pred), S = St w0 H0 (.obj l (R st pd) :: ms) H ∧ (∀ w, St w0 H0 ms H w → S' w) ∧ st ≠ .busy ∧
  match pd with
  | none => Q .normal g S'
  | some .ret => Q .ret g S'
  | some (.exit id) => Q (.exit id) g S'
  | _ => False
section
variable {l : Nat} {R : LoopState → Option Code → Obj} {Q : Exit → Frm → Pred → Prop} {S' : Pred}
theorem afterM_normal (hS : ∀ w, St w0 H0 ms H w → S' w) (h : Q .normal g S') : AfterQM w0 H0 l R g Q (St w0 H0 (.obj l (R .ready none) :: ms) H) := ⟨_, none, ms, H, S', rfl, hS, by decide, h⟩
theorem afterM_ret (hS : ∀ w, St w0 H0 ms H w → S' w) (h : Q .ret g S') : AfterQM w0 H0 l R g Q (St w0 H0 (.obj l (R .done (some .ret)) :: ms) H) := ⟨_, some .ret, ms, H, S', rfl, hS, by decide, h⟩
end
theorem WP.rangeCM {gf : Operand} {ps : List Tmp} {assign body : Code} {v : Value} {Q : Exit → Frm → Pred → Prop} {Ds : List Nat} (hg : ev g gf = some v)
 (k : ∀ (l D : Nat) (R : LoopState → Option Code → Obj), RecOf R n ((markKey, .bool false) :: g) ps assign body D → ∀ w, St w0 H0 (.obj l (R .ready none) :: .obj D (.deferred (some [])) :: ms) H w →
  VCalls P v [.func (.yield l) #[] #[]] w fun e w' => ∃ r, e = .returned r ∧ ∃ S', AfterQM w0 H0 l R ((markKey, marksV (D :: Ds)) :: g) Q S' ∧ S' w')
 (hm : look g markKey = some (marksV Ds) := by rfl) : WP Fence.wide P n (.rangeFunc gf ps.toArray assign body) g (St w0 H0 ms H) Q := fun a w f s => by
 have hd : a.defers = Ds.map fun D => { target := .collected D, args := #[] } := by rw [f.marks _ hm, defersOf_marks]
 have hfr : Fits n ((markKey, .bool false) :: g) ⟨a.tmps, []⟩ := by
  refine ⟨fun v e => ?_, f.size, fun t v e ht => f.slots t v (by rw [look_cons, if_neg (fun q => ht q.symm)] at e; exact e) ht⟩
  rw [look_cons, if_pos rfl] at e
  cases e
  rfl
 refine wpIn_rangeFunc fun fid _ => ?_
 have hlrec : (Instr.enterLoop fid a.tmps ps.toArray assign body Fence.wide.round).run P w = _ := run_enterLoop_outer (P := P) (w := w) fid a.tmps ps.toArray assign body
 have s1 : St w0 H0 (.obj w.heap.size (.deferred (some [])) :: ms) H (w.alloc (.deferred (some []))) :=
  s.push ((Below.refl _ w).alloc (Nat.le_refl _) _) (World.alloc_heap_new w _) (fun b hb => by cases hb; exact Nat.le_refl _)
 have s2 := s1.push (e := .obj (w.heap.size + 1) (lrec .ready none fid a.tmps ps.toArray assign body w.heap.size)) ((Below.refl _ _).alloc (Nat.le_refl _) _)
  (by have := World.alloc_heap_new (w.alloc (.deferred (some []))) (lrec .ready none fid a.tmps ps.toArray assign body w.heap.size); rw [World.size_alloc] at this; exact this) (fun b hb => by cases hb; simp)
 obtain ⟨F2, cap, rfl, hc, hcall⟩ := k (w.heap.size + 1) w.heap.size (fun st pd => lrec st pd fid a.tmps ps.toArray assign body w.heap.size) ⟨fid, a.tmps, fun _ _ => rfl, hfr⟩ _ s2
 refine ⟨w.heap.size + 1, _, _, { target := .fn (.func F2) cap.toArray, args := #[.func (.yield (w.heap.size + 1)) #[] #[]] }, (w.alloc (.deferred (some []))).alloc (lrec .ready none fid a.tmps ps.toArray assign body w.heap.size), F2, _, _, hlrec, ?_, fun _ _ => trivial, ?_, fun h => (by cases h), callsIn_wide.2 (Calls.mono hcall ?_)⟩
 · simp [resolve, rangeCall, f.eval hg, Deferred.ofValue]
   exact ⟨rfl, rfl⟩
 · have := hc (#[.func (.yield (w.heap.size + 1)) #[] #[]] ++ cap.toArray) ((w.alloc (.deferred (some []))).alloc (lrec .ready none fid a.tmps ps.toArray assign body w.heap.size))
   simp only [invoke]
   simpa using this
 · rintro e w3 ⟨v, rfl, S', ⟨st, pd, ms', H', S2, rfl, hS2, hst, hj⟩, s3⟩
   have hl : w3.heap[w.heap.size + 1]? = some (lrec st pd fid a.tmps ps.toArray assign body w.heap.size) := s3.sat _ (List.mem_cons_self ..)
   have s4 := hS2 _ ((s3.obj_put (i := 0) (y := lrec .exhausted pd fid a.tmps ps.toArray assign body w.heap.size) rfl).less (List.sublist_cons_self _ _))
   have hfit : Fits n ((markKey, marksV (w.heap.size :: Ds)) :: g) { a with defers := [{ target := .collected w.heap.size, args := #[] }] ++ a.defers } := by
    refine ⟨fun v e => ?_, f.size, fun t v e ht => f.slots t v (by rw [look_cons, if_neg (fun q => ht q.symm)] at e; exact e) ht⟩
    rw [look_cons, if_pos rfl] at e
    cases e
    rw [defersOf_marks, hd]
    rfl
   refine ⟨pd, _, run_endLoop hl hst, ?_⟩
   cases pd with
   | none => exact ⟨_, _, hfit, s4, hj⟩
   | some c =>
    cases c with
    | ret => exact wpIn_ret ⟨_, _, hfit, s4, hj⟩
    | exit id => exact wpIn_exit ⟨_, _, hfit, s4, hj⟩
    | _ => exact hj.elim
end
end Go.Proofs.YtkgijoddkibapaaGreatDoor.W
