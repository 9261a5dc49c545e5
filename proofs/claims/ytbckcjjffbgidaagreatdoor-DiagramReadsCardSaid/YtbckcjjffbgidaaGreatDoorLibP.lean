/- Our own calculus, eighth part: rows of the call's own whose elements are read and written, appended lists, shifts, indices. A general text: it names no program. -/
import Derived.Test.YtbckcjjffbgidaaGreatDoorLibF
import Derived.Laws.OwnMore
import Derived.Lib.SliceRun
import Derived.Lib.Overlaps
import Derived.Lib.AppendZerosOnto
import Derived.Laws.Externs
import Derived.Lib.AppendStr
import Derived.Lib.Builder
import Derived.Laws.BytesArg
import Derived.OrdersIn
import Derived.Laws.MakeOwn
import Derived.Laws.RangeAny
import Derived.Lib.OthersKept
set_option linter.unusedVariables false
set_option linter.unusedSimpArgs false
set_option linter.unusedSectionVars false
namespace Go.Proofs.YtbckcjjffbgidaaGreatDoor.W
open Go Go.RowKit
section
variable {α : Type} {H : Heap} {E : Enc α} {l : List α} {xs : List Value}
theorem RL.get (h : RL H E l xs) {i : Int} {x : α} (e : at? l i = some x) : 0 ≤ i ∧ i < l.length ∧ i.toNat * E.size + E.size ≤ xs.length ∧ ∃ cs, E.rep H x cs ∧ cs = (xs.drop (i.toNat * E.size)).take E.size := by
 obtain ⟨h0, h1, h2⟩ := at?_some e
 have hi := (List.getElem?_eq_some_iff.1 h2).1
 refine ⟨h0, h1, ?_, _, h.2 _ _ h2, rfl⟩
 rw [h.1, ← Nat.succ_mul]
 exact Nat.mul_le_mul_right _ hi
theorem elem_cell {k m : Nat} {cs : List Value} (hc : cs = (xs.drop k).take m) {off : Nat} {u : Value} (hu : cs[off]? = some u) : xs[k + off]? = some u := by
 subst hc
 rw [List.getElem?_take] at hu
 split at hu
 · rwa [List.getElem?_drop] at hu
 · cases hu
theorem at?_set {i : Int} {x y : α} (e : at? l i = some x) : at? (l.set i.toNat y) i = some y := by
 obtain ⟨h0, h1, h2⟩ := at?_some e
 have hi := (List.getElem?_eq_some_iff.1 h2).1
 unfold at?
 rw [if_pos h0, List.getElem?_set_self hi]
theorem spl_length {cs vs : List Value} {off : Nat} (h : off + vs.length ≤ cs.length) : (spl cs off vs).length = cs.length := by
 simp only [spl, List.length_append, List.length_take, List.length_drop]
 omega
theorem spl_drop_take {cs vs : List Value} {k m off : Nat} (h : off + vs.length ≤ m) (hk : k + m ≤ cs.length) : ((spl cs (k + off) vs).drop k).take m = spl ((cs.drop k).take m) off vs := by
 apply List.ext_getElem?
 intro j
 by_cases hj0 : m ≤ j
 · have hm : ((cs.drop k).take m).length = m := by simp; omega
   rw [List.getElem?_eq_none (by simp; omega), List.getElem?_eq_none (by rw [spl_length (by rw [hm]; exact h), hm]; exact hj0)]
 simp only [spl, List.getElem?_take, List.getElem?_drop, List.getElem?_append, List.length_append, List.length_take, List.length_drop, List.length_append]
 by_cases hj : j < m
 · simp only [hj, if_true]
   by_cases h1 : k + j < k + off
   · have a1 : k + j < min (k + off) cs.length := by omega
     have a2 : j < min off (min m (cs.length - k)) := by omega
     have a3 : k + j < min (k + off) cs.length + vs.length := by omega
     have a4 : j < min off (min m (cs.length - k)) + vs.length := by omega
     have a5 : j < off := by omega
     have a6 : k + j < k + off := h1
     simp [a1, a2, a3, a4, a5, hj]
   · by_cases h2 : j < off + vs.length
     · have a1 : ¬ k + j < min (k + off) cs.length := by omega
       have a2 : ¬ j < min off (min m (cs.length - k)) := by omega
       have a3 : k + j < min (k + off) cs.length + vs.length := by omega
       have a4 : j < min off (min m (cs.length - k)) + vs.length := by omega
       have a5 : k + j - min (k + off) cs.length = j - min off (min m (cs.length - k)) := by omega
       simp [a1, a2, a3, a4, a5]
     · have a1 : ¬ k + j < min (k + off) cs.length := by omega
       have a2 : ¬ j < min off (min m (cs.length - k)) := by omega
       have a3 : ¬ k + j < min (k + off) cs.length + vs.length := by omega
       have a4 : ¬ j < min off (min m (cs.length - k)) + vs.length := by omega
       have a5 : k + off + vs.length + (k + j - (min (k + off) cs.length + vs.length)) = k + j := by omega
       have a6 : off + vs.length + (j - (min off (min m (cs.length - k)) + vs.length)) = j := by omega
       simp [a1, a2, a3, a4, a5, a6, hj]
 · omega
theorem spl_other {cs vs : List Value} {k m k' off : Nat} (h : off + vs.length ≤ m) (hk : k + m ≤ cs.length) (hd : k' + m ≤ k ∨ k + m ≤ k') : ((spl cs (k + off) vs).drop k').take m = (cs.drop k').take m := by
 apply List.ext_getElem?
 intro j
 simp only [spl, List.getElem?_take, List.getElem?_drop, List.getElem?_append, List.length_append, List.length_take, List.length_drop]
 by_cases hj : j < m
 · simp only [hj, if_true]
   rcases hd with hd | hd
   · have a1 : k' + j < min (k + off) cs.length := by omega
     have a2 : k' + j < min (k + off) cs.length + vs.length := by omega
     have a3 : k' + j < k + off := by omega
     simp [a1, a2, a3]
   · have a1 : ¬ k' + j < min (k + off) cs.length + vs.length := by omega
     have a2 : k + off + vs.length + (k' + j - (min (k + off) cs.length + vs.length)) = k' + j := by omega
     simp [a1, a2]
 · simp only [hj, if_false]
theorem RL.set (h : RL H E l xs) {i : Int} {x y : α} {off : Nat} {cs vs : List Value} (e : at? l i = some x) (hc : cs = (xs.drop (i.toNat * E.size)).take E.size) (hy : E.rep H y (spl cs off vs)) (ho : off + vs.length ≤ E.size) :
 RL H E (l.set i.toNat y) (spl xs (i.toNat * E.size + off) vs) := by
 obtain ⟨h0, h1, h2, _⟩ := h.get e
 have hi : i.toNat < l.length := by omega
 refine ⟨by rw [spl_length (by omega), List.length_set, h.1], fun j z hz => ?_⟩
 by_cases hj : i.toNat = j
 · subst hj
   rw [List.getElem?_set_self hi] at hz
   cases hz
   rw [spl_drop_take ho h2, ← hc]
   exact hy
 · rw [List.getElem?_set_ne hj] at hz
   have hjl := (List.getElem?_eq_some_iff.1 hz).1
   rw [spl_other ho h2 ?_]
   · exact h.2 j z hz
   · rcases Nat.lt_or_gt_of_ne hj with hlt | hgt
     · right; rw [← Nat.succ_mul]; exact Nat.mul_le_mul_right _ hlt
     · left; rw [← Nat.succ_mul]; exact Nat.mul_le_mul_right _ hgt
end
section
variable {P : Program} {n : Nat} {o : Oper} {g : Frm} {S : Pred} {w0 : World} {ms : List Ent} {H0 H : Heap}
theorem ov_index_at {T : TypeId} {x y : Operand} {k : IntKind} {i j : Int} {cs : List Value} {r : Value} (hk : i = j) (h : o.op = .index T x y) (hx : ev g x = some (.agg cs.toArray)) (hy : ev g y = some (.int k i)) (hr : ∀ w, (Instr.index T (.agg cs.toArray) (.int k j)).run P w = .ok r w) : OV P n o g S r := fun a w f _ => by
 subst hk
 simp [execOp, h, f.eval hx, f.eval hy, hr]
theorem own_some {w : World} {base : Nat} {T : TypeId} {sz m cap : Nat} {ao : Option Addr} {xs : List Value} (h : w.ownsRow base T sz (.slice ao m cap) m xs) (hm : 0 < m) : ∃ b cur, ao = some ⟨b, 0, none⟩ ∧ w.heap[b]? = some (.cells cur T (0, 0)) ∧ cur.size = cap * sz ∧ m ≤ cap ∧ cap ≤ maxLen ∧ base ≤ b ∧ cur.toList.take (m * sz) = xs := by
 rcases h.2 with ⟨e, rfl⟩ | ⟨b, c, cur, e, hb, hg, h1, h2, h3, h4⟩
 · omega
 · injection e with e1 e2 e3
   subst e1
   subst e3
   exact ⟨b, cur, rfl, hg, h3, h1, h2, hb, h4⟩
theorem ov_indexAddr_own {T E : TypeId} {x y : Operand} {i c m s : Nat} {ao : Option Addr} {kk : IntKind} {j : Int} {xs : List Value} (hT : P.underlying T = some (.slice E)) (hs : ∀ w, (sizeOf E).run P w = .ok s w) (h : o.op = .indexAddr T x y) (hx : ev g x = some (.slice ao m c)) (hy : ev g y = some (.int kk j)) (hi : ms[i]? = some (.row E s m (.slice ao m c) xs)) (h0 : 0 ≤ j) (h1 : j < m) :
 OV P n o g (St w0 H0 ms H) (pE ao (j.toNat * s)) := fun a w f st => by
 obtain ⟨b, cur, rfl, _⟩ := own_some (st.sat _ (List.mem_of_getElem? hi)) (by omega)
 exact ov_indexAddr (S := fun _ => True) hT hs h hx hy h0 h1 ⟨_, rfl⟩ a w f trivial
theorem ov_load_own {T T' : TypeId} {x : Operand} {i c m s k : Nat} {ao : Option Addr} {v : Value} {xs : List Value} (hA : ∀ w, (isAgg T).run P w = .ok false w) (h : o.op = .load T x) (hx : ev g x = some (pE ao k)) (hi : ms[i]? = some (.row T' s m (.slice ao m c) xs)) (hm : 0 < m) (hv : xs[k]? = some v) :
 OV P n o g (St w0 H0 ms H) v := fun a w f st => by
 have hs := st.sat _ (List.mem_of_getElem? hi)
 obtain ⟨b, cur, rfl, _⟩ := own_some hs hm
 have hc := World.ownsRow.cells (g := b) hs rfl k v hv
 have hp : pE (some ⟨b, 0, none⟩) k = .pointer (some ((⟨b, 0, none⟩ : Addr).add k)) := rfl
 rw [hp] at hx
 simp [execOp, h, f.eval hx, Instr.loadAt, Instr.sureAddr, loadVar, hA, hc]
theorem ov_load_owns {T T' : TypeId} {x : Operand} {i c m s k sz : Nat} {ao : Option Addr} {vs : List Value} {xs : List Value} (hA : ∀ w, (isAgg T).run P w = .ok true w) (hS : ∀ w, (sizeOf T).run P w = .ok sz w) (h : o.op = .load T x) (hx : ev g x = some (pE ao k)) (hi : ms[i]? = some (.row T' s m (.slice ao m c) xs)) (hm : 0 < m) (hl : vs.length = sz) (hv : ∀ j u, vs[j]? = some u → xs[k + j]? = some u) :
 OV P n o g (St w0 H0 ms H) (.agg vs.toArray) := fun a w f st => by
 have hs := st.sat _ (List.mem_of_getElem? hi)
 obtain ⟨b, cur, rfl, _⟩ := own_some hs hm
 have hc : ∀ j u, vs[j]? = some u → w.cell? (((⟨b, 0, none⟩ : Addr).add k).add j) = some u := fun j u e => by
  rw [add_add]
  exact World.ownsRow.cells (g := b) hs rfl _ u (hv j u e)
 have hl' := run_loadCells_list (P := P) (w := w) ((⟨b, 0, none⟩ : Addr).add k) vs hc
 subst hl
 have hp : pE (some ⟨b, 0, none⟩) k = .pointer (some ((⟨b, 0, none⟩ : Addr).add k)) := rfl
 rw [hp] at hx
 simp [execOp, h, f.eval hx, Instr.loadAt, Instr.sureAddr, loadVar, hA, hS, hl']
theorem os_store_own {T T' : TypeId} {x y : Operand} {i c m s k sz : Nat} {ao : Option Addr} {v : Value} {vs xs : List Value} {K : Value → Pred → Prop} (hS : ∀ w, (sizeOf T).run P w = .ok sz w) (h : o.op = .store T x y) (hx : ev g x = some (pE ao k)) (hy : ev g y = some v)
 (hi : ms[i]? = some (.row T' s m (.slice ao m c) xs)) (hm : 0 < m) (hv : v.cells = vs.toArray) (hl : vs.length = sz) (hle : k + vs.length ≤ xs.length) (h1 : vs.all (·.oneCell') = true) (kk : K undef (St w0 H0 (ms.set i (.row T' s m (.slice ao m c) (spl xs k vs))) H)) : OS P n o g (St w0 H0 ms H) K := fun a w f st next Q hn => by
 have hs := st.sat _ (List.mem_of_getElem? hi)
 obtain ⟨b, cur, rfl, hg, h3, h4, h5, h6, h7⟩ := own_some hs hm
 have hxl : xs.length = m * s := hs.1
 have hms : m * s ≤ c * s := Nat.mul_le_mul_right _ h4
 have hsz : k + vs.length ≤ cur.size := by rw [h3]; omega
 have hst := run_storeCells_at P b k T' vs 0 cur w hg (by simpa using hsz) (by simpa [List.all_eq_true] using h1)
 simp only [Nat.add_zero] at hst
 have hp : pE (some ⟨b, 0, none⟩) k = pB b k := by
  show Value.pointer (some ((⟨b, 0, none⟩ : Addr).add k)) = pB b k
  rw [addr_add, Nat.zero_add]
  rfl
 rw [hp] at hx
 subst hl
 have hr : (execOp a.eval o).run P w = .ok .skip (w.setRow b (cur.toList.take k ++ vs ++ cur.toList.drop (k + vs.length)).toArray) := by
  simp [execOp, h, f.eval hx, f.eval hy, pB, Instr.storeAt, Instr.sureAddr, storeVar, hS, hv]
  simpa using congrArg (fun r => r.andThen fun _ w' => Result.ok Next.skip w') hst
 unfold Oper.wp
 rw [hr]
 refine hn _ _ _ kk (st.turn hi (grownBy_setRow w b _) ?_ (fun c hc => .inl hc))
 refine ⟨by rw [spl_length hle]; exact hxl, .inr ⟨b, c, _, rfl, h6, setRow_heap w b cur _ T' _ hg, h4, h5, ?_, ?_⟩⟩
 · have hcl : cur.toList.length = cur.size := Array.length_toList
   simp only [List.size_toArray, List.length_append, List.length_take, List.length_drop]
   omega
 · have hcl : cur.toList.length = cur.size := Array.length_toList
   subst h7
   show List.take (m * s) (spl cur.toList k vs) = spl (cur.toList.take (m * s)) k vs
   have := spl_drop_take (cs := cur.toList) (vs := vs) (k := 0) (m := m * s) (off := k) (by simp only [List.length_take] at hle; omega) (by omega)
   simpa using this
theorem own_pos {i : Int} {m : Nat} (h0 : 0 ≤ i) (h1 : i < m) : 0 < m := by omega
theorem elem_le {b m off len L : Nat} (hk : b + m ≤ L) (ho : off + len ≤ m) : b + off + len ≤ L := by omega
theorem SL.sub {α : Type} {E : Enc α} {ao : Option Addr} {l r : List α} (h : SL H E ao (l ++ r)) : SL H E ao l := fun i x e => h i x (by rw [List.getElem?_append_left (List.getElem?_eq_some_iff.1 e).1]; exact e)
theorem SL.cells {α : Type} {E : Enc α} {ao : Option Addr} : ∀ l : List α, SL H E ao l → ∃ ys, RL H E l ys ∧ RowAt H ao 0 ys := by
 have key : ∀ r : List α, SL H E ao r.reverse → ∃ ys, RL H E r.reverse ys ∧ RowAt H ao 0 ys := fun r => by
  induction r with
  | nil => exact fun _ => ⟨[], RL.nil _ _, fun j u e => by simp at e⟩
  | cons x r ih =>
   intro h
   rw [List.reverse_cons] at h ⊢
   obtain ⟨ys, h1, h2⟩ := ih h.sub
   obtain ⟨cs, h3, h4⟩ := h r.reverse.length x (by simp)
   refine ⟨ys ++ cs, h1.append (RL.one h3), fun j u e => ?_⟩
   rw [List.getElem?_append] at e
   split at e
   · exact h2 j u e
   · rename_i hlt
     obtain ⟨a, e1, e2⟩ := h4 _ u e
     refine ⟨a, e1, ?_⟩
     rw [Nat.zero_add]
     have : r.reverse.length * E.size + (j - ys.length) = j := by rw [← h1.1]; omega
     rw [this] at e2
     exact e2
 intro l h
 have := key l.reverse (by rw [List.reverse_reverse]; exact h)
 rwa [List.reverse_reverse] at this
theorem append_none {P : Program} {w : World} (base : Nat) (t ty e : TypeId) (i : TypeInfo) (size c : Nat) (ht : P.underlying t = some (.slice e)) (hi : P.info? e = some i) (v : Value) (n : Nat) (xs : List Value) (hown : w.ownsRow base e size v n xs) :
 (Builtin.append_ #[t, t] ty #[v, .slice none 0 c]).run P w = .ok v w := by
 rcases hown.2 with ⟨rfl, rfl⟩ | ⟨g, cap, cur, rfl, _, _, hnc, _⟩
 · simp [Builtin.append_, run_underlying ht, sizeOf, typeInfo, hi, Builtin.lenOf, Builtin.firstCells]
 · simp [Builtin.append_, run_underlying ht, sizeOf, typeInfo, hi, Builtin.lenOf, Builtin.firstCells, hnc, storeCells]
theorem os_app_sl {α : Type} {En : Enc α} {l r x : List α} {T E : TypeId} {p q : Operand} {i c bytes : Nat} {z v : Value} {ao2 : Option Addr} {xs : List Value} {K : Value → Pred → Prop} (hT : P.underlying T = some (.slice E)) (hI : (P.info? E).map (fun i => (i.zero, i.size, i.bytes)) = some (some z, En.size, bytes)) (hz : z.cells.size = En.size) (hsz : 0 < En.size)
 (hone : ∀ H x cs, En.rep H x cs → cs.all (·.oneCell') = true)
 (h : o.op = .call { callee := .builtin .append, args := #[p, q], argTypes := #[T, T] }) (hx : ev g p = some v) (hy : ev g q = some (.slice ao2 r.length c)) (hi : ms[i]? = some (.row E En.size l.length v xs)) (hR' : SL H En ao2 r) (hc : r.length ≤ c)
 (hR : RL H En l xs) (hm : appO bytes l r = some x)
 (kk : ∀ ao cap ys, RL H En (l ++ r) (xs ++ ys) → K (.slice ao (l ++ r).length cap) (St w0 H0 (ms.set i (.row E En.size (l ++ r).length (.slice ao (l ++ r).length cap) (xs ++ ys))) H)) : OS P n o g (St w0 H0 ms H) K := fun a w f s next Q hn => by
 obtain ⟨i0, hi0, hz0, hz1, hz2⟩ := info_parts hI
 have si := s.sat _ (List.mem_of_getElem? hi)
 obtain ⟨ys, hys, hrow⟩ := SL.cells r hR'
 have hone' : ∀ u ∈ ys, u.oneCell' = true := fun u hu => by
  obtain ⟨t, ht⟩ := List.getElem?_of_mem hu
  have hlt := (List.getElem?_eq_some_iff.1 ht).1
  have hq : t / En.size < r.length := by
   rw [Nat.div_lt_iff_lt_mul hsz, ← hys.1]
   exact hlt
  have h2 := hys.2 (t / En.size) _ (List.getElem?_eq_getElem hq)
  have h3 := List.all_eq_true.1 (hone _ _ _ h2) u
  apply h3
  refine List.mem_iff_getElem?.2 ⟨t % En.size, ?_⟩
  rw [List.getElem?_take, if_pos (Nat.mod_lt _ hsz), List.getElem?_drop]
  have : t / En.size * En.size + t % En.size = t := by rw [Nat.mul_comm]; exact Nat.div_add_mod t _
  rw [this]
  exact ht
 cases ao2 with
 | none =>
  have hr0 : r = [] := by
   cases r with
   | nil => rfl
   | cons y r =>
    obtain ⟨cs, h3, h4⟩ := hR' 0 y rfl
    obtain ⟨a', e⟩ := h4.addr (by intro e; have := En.len h3; rw [e] at this; simp at this; omega)
    cases e
  subst hr0
  have hy0 : ys = [] := List.eq_nil_of_length_eq_zero (by rw [hys.1]; simp)
  have hr' : (execOp a.eval o).run P w = .ok (.value v) w := by
   have := append_none (P := P) (w := w) w0.heap.size T o.type E i0 i0.size c hT hi0 v _ _ (by rw [hz1]; exact si)
   simp [execOp, h, resolve, invoke, builtin, f.eval hx, f.eval hy, this]
  unfold Oper.wp
  rw [hr']
  have hv : ∃ ao cap, v = .slice ao l.length cap := by
   rcases si.2 with ⟨e1, e2⟩ | ⟨b', c', _, e1, _⟩
   · exact ⟨none, 0, by rw [e1, e2]⟩
   · exact ⟨_, c', e1⟩
  obtain ⟨ao, cap, rfl⟩ := hv
  have k1 := kk ao cap ys (hR.append hys)
  subst hy0
  simp only [List.append_nil] at k1
  refine hn _ _ _ k1 ?_
  have hset : ms.set i (.row E En.size l.length (.slice ao l.length cap) xs) = ms := by
   obtain ⟨hlt, he⟩ := List.getElem?_eq_some_iff.1 hi
   rw [← he]
   exact List.set_getElem_self ..
  rw [hset]
  exact s
 | some ad =>
  have hcell : ∀ t u, ys[t]? = some u → w.cell? (ad.add t) = some u := fun t u e => by
   obtain ⟨a', e1, e2⟩ := hrow t u e
   cases e1
   rw [Nat.zero_add] at e2
   exact cellH_world s.hold e2
  obtain ⟨v', w', hr, hown, hgr, hnil'⟩ := run_append_own (P := P) w w0.heap.size T o.type E i0 z En.size bytes hT hi0 hz0 hz1 hz2 hz hsz v _ xs si ad r.length c ys hys.1 hcell hone' (appO_some hm).1.2 (appO_some hm).1.1 s.below.size
  have hr' : (execOp a.eval o).run P w = .ok (.value v') w' := by
   simp [execOp, h, resolve, invoke, builtin, f.eval hx, f.eval hy, hr]
  unfold Oper.wp
  rw [hr']
  have hv : ∃ ao cap, v' = .slice ao (l ++ r).length cap := by
   rw [List.length_append]
   rcases hown.2 with ⟨e1, e2⟩ | ⟨b', c', _, e1, _⟩
   · exact ⟨none, 0, by rw [e1, e2]⟩
   · exact ⟨_, c', e1⟩
  obtain ⟨ao, cap, rfl⟩ := hv
  rw [← List.length_append] at hown
  refine hn _ _ _ (kk ao cap ys (hR.append hys)) (s.turn hi hgr hown ?_)
  exact append_block (P := P) (w := w) (base := w0.heap.size) (c := c) hT hi0 hz0 (by rw [hz1]; exact si) (by rw [hz1]; exact hys.1) hcell hone' (appO_some hm).1.2 (by rw [hz2]; exact (appO_some hm).1.1) hnil' hr
end
theorem one_encBool : ∀ H x cs, encBool.rep H x cs → cs.all (·.oneCell') = true := fun _ _ _ h => by cases h; rfl
section
variable {P : Program} {n : Nat} {o : Oper} {g : Frm} {S : Pred} {w0 : World} {ms : List Ent} {H0 H : Heap}
theorem eqGuard_slice {op : BinOp} {t : TypeId} {x y : Operand} {a b : Option Addr} {l c l' c' : Nat} : eqGuard op t x y (.slice a l c) (.slice b l' c') = pure () := by
 cases op <;> rfl
theorem ov_eql_nilS {T E T' : TypeId} {x y : Operand} {a : Option Addr} {l c : Nat} (hT : P.underlying T = some (.slice E)) (h : o.op = .binOp .eql T x y T') (hx : ev g x = some (.slice a l c)) (hy : ev g y = some (.slice none 0 0)) : OV P n o g S (.bool a.isNone) := fun a' w f _ => by
 simp only [execOp, h, f.eval hx, f.eval hy, Sem.run_bind, eqGuard_slice, Sem.run_pure, Result.andThen_ok, Lib.run_eql_slice_nil w T E a l c 0 0 hT]
end
section
variable {w w0 : World} {ms : List Ent} {H0 H : Heap} {T : TypeId} {sz m cap b : Nat} {ao : Option Addr} {xs cur : List Value}
end
section
variable {P : Program} {n : Nat} {o : Oper} {g : Frm} {w0 : World} {ms : List Ent} {H0 H : Heap}
end
section
variable {w w0 : World} {ms : List Ent} {H0 H : Heap} {T : TypeId} {sz m cap b i : Nat} {ao : Option Addr} {xs cur : List Value}
theorem St.far {k : Nat} {e e' : Ent} (h : St w0 H0 ms H w) (hi : ms[i]? = some e) (hk : ms[k]? = some e') (hne : i ≠ k) : ∀ b, e.at = some b → e'.at ≠ some b := fun b h1 h2 => by
 obtain ⟨hi1, hi2⟩ := List.getElem?_eq_some_iff.1 hi
 obtain ⟨hk1, hk2⟩ := List.getElem?_eq_some_iff.1 hk
 have hp := List.pairwise_iff_getElem.1 h.apart
 rcases Nat.lt_or_gt_of_ne hne with q | q
 · exact hp i k hi1 hk1 q b (by rw [hi2]; exact h1) (by rw [hk2]; exact h2)
 · exact hp k i hk1 hi1 q b (by rw [hk2]; exact h2) (by rw [hi2]; exact h1)
theorem St.move {e : Ent} (h : St w0 H0 (e :: ms) H w) (i : Nat) : St w0 H0 (ms.set i e) H w := by
 have hm : ∀ x ∈ ms.set i e, x ∈ e :: ms := fun x hx => by
  rcases List.mem_or_eq_of_mem_set hx with h | rfl
  · exact List.mem_cons_of_mem _ h
  · exact List.mem_cons_self ..
 refine ⟨h.old, h.below, h.hold, fun x hx => h.sat x (hm x hx), fun x hx => h.own x (hm x hx), ?_⟩
 rw [List.pairwise_iff_getElem]
 intro p q hp hq hpq b hb hb'
 have hA := fun y hy => List.rel_of_pairwise_cons (a' := y) h.apart hy
 have hB := List.pairwise_iff_getElem.1 (List.Pairwise.of_cons h.apart)
 rw [List.getElem_set] at hb hb'
 rw [List.length_set] at hp hq
 by_cases h1 : i = p
 · rw [if_pos h1] at hb
   rw [if_neg (by omega)] at hb'
   exact hA _ (List.getElem_mem hq) b hb hb'
 · rw [if_neg h1] at hb
   by_cases h2 : i = q
   · rw [if_pos h2] at hb'
     exact hA _ (List.getElem_mem hp) b hb' hb
   · rw [if_neg h2] at hb'
     exact hB p q hp hq hpq b hb hb'
end
section
variable {α : Type} {H : Heap} {E : Enc α} {l : List α} {xs : List Value}
theorem RL.take (h : RL H E l xs) (n : Nat) : RL H E (l.take n) (xs.take (n * E.size)) := by
 refine ⟨?_, fun i x e => ?_⟩
 · rw [List.length_take, List.length_take, h.1]
   rcases Nat.le_total n l.length with k | k
   · rw [Nat.min_eq_left k, Nat.min_eq_left (Nat.mul_le_mul_right _ k)]
   · rw [Nat.min_eq_right k, Nat.min_eq_right (Nat.mul_le_mul_right _ k)]
 · rw [List.getElem?_take] at e
   split at e
   · rename_i hlt
     have := h.2 i x e
     rw [List.drop_take, List.take_take, Nat.min_eq_left]
     · exact this
     · rw [← Nat.sub_mul]
       exact Nat.le_mul_of_pos_left _ (by omega)
   · cases e
theorem RL.drop (h : RL H E l xs) (n : Nat) : RL H E (l.drop n) (xs.drop (n * E.size)) := by
 refine ⟨?_, fun i x e => ?_⟩
 · rw [List.length_drop, List.length_drop, h.1, Nat.sub_mul]
 · rw [List.getElem?_drop] at e
   have := h.2 _ x e
   rw [List.drop_drop]
   rw [Nat.add_mul] at this
   exact this
end
section
variable {P : Program} {n : Nat} {o : Oper} {g : Frm} {w0 : World} {ms : List Ent} {H0 H : Heap}
theorem OV.as {S : Pred} {v v' : Value} (h : OV P n o g S v) (e : v = v') : OV P n o g S v' := e ▸ h
theorem WP.pre {F : Fence} {p : Prop} {c : Code} {S : Pred} {Q : Exit → Frm → Pred → Prop} (h : p → WP F P n c g S Q) : WP F P n c g (fun w => p ∧ S w) Q := fun a w f ⟨hp, s⟩ => h hp a w f s
end
def encByte : Enc UInt8 := Enc.flat 1 (fun b => [.int .u8 (b.toNat : Int)]) (fun _ => rfl)
theorem bytes_cells (s : List UInt8) : Lib.strCells ⟨s.toArray⟩ = s.flatMap fun b => [Value.int .u8 (b.toNat : Int)] := by
 induction s with
 | nil => rfl
 | cons x r ih =>
  simp only [Lib.strCells] at ih ⊢
  simp [List.flatMap_cons]
  simpa using ih
theorem RL.str (H : Heap) (s : List UInt8) : RL H encByte s (Lib.strCells ⟨s.toArray⟩) := by
 rw [bytes_cells]
 exact RL.flat s
theorem RL.bytes {H : Heap} : ∀ {l : List UInt8} {xs : List Value}, RL H encByte l xs → xs = Lib.byteCells l := by
 intro l
 induction l with
 | nil =>
  intro xs h
  exact List.eq_nil_of_length_eq_zero (by simpa using h.1)
 | cons b r ih =>
  intro xs h
  have h0 := h.2 0 b rfl
  have hs : encByte.size = 1 := rfl
  rw [hs] at h0
  cases xs with
  | nil => cases h0
  | cons x ys =>
   have e : [x] = [Value.int .u8 (b.toNat : Int)] := h0
   have hy : RL H encByte r ys := by
    have := h.drop 1
    rw [hs] at this
    simpa using this
   rw [ih hy]
   injection e with e1
   subst e1
   rfl
section
variable {P : Program} {n : Nat} {o : Oper} {g : Frm} {w0 : World} {ms : List Ent} {H0 H : Heap}
theorem append_block_str {w w' : World} {base : Nat} {T U E ty : TypeId} {i0 : TypeInfo} {v v' : Value} {m : Nat} {s : ByteArray} {xs : List Value} (hT : P.underlying T = some (.slice E)) (hU : P.underlying U = some .string) (hi : P.info? E = some i0) (hz : i0.zero = some (.int .u8 0)) (hs1 : i0.size = 1) (hb1 : i0.bytes = 1)
 (hv : w.ownsRow base E 1 v m xs) (hm : m + s.size ≤ maxLen) (hb : m + s.size ≤ 140737488355328) (hnil : v' = .slice none 0 0 ↔ v = .slice none 0 0 ∧ s.size = 0)
 (hr : (Builtin.append_ #[T, U] ty #[v, .string s]).run P w = .ok v' w') : ∀ d, v'.ownBlock = some d → v.ownBlock = some d ∨ w.heap.size ≤ d := fun d hd => by
 have hmm : maxLen ≤ 9223372036854775807 := by decide
 have hcells := fun b (h : v.ownBlock = some b) => hv.cells (g := b) h
 rcases hv.2 with ⟨rfl, rfl⟩ | ⟨b, cap, cur, rfl, _, hh, hle, _, hcs, htake⟩
 · by_cases hk : s.size = 0
   · rw [hnil.2 ⟨rfl, hk⟩] at hd
     simp [Value.ownBlock] at hd
   · have := run_append_nil_string (P := P) w T U ty E i0 (.int .u8 0) hT hU hi hz s (by omega) (by omega) (by rw [hb1]; omega)
     rw [this] at hr
     injection hr with e1 _
     subst e1
     simp [Value.ownBlock] at hd
     right; omega
 · by_cases hroom : m + s.size ≤ cap
   · have := Lib.run_append_room_string (P := P) w T U ty E i0 hT hU hi hs1 b m cap cur hh s hroom (by rw [hcs]; omega)
     rw [this] at hr
     injection hr with e1 _
     subst e1
     exact .inl hd
   · have := Lib.run_append_grow_string (P := P) w T U ty E i0 (.int .u8 0) hT hU hi hz ⟨b, 0, none⟩ m cap xs (by rw [hs1]; exact hv.1) (hcells b rfl) s (by omega) (by omega) (by rw [hb1]; exact growslice_fits (by omega) (by omega))
     rw [this] at hr
     injection hr with e1 _
     subst e1
     simp [Value.ownBlock] at hd
     right; omega
theorem os_app_str {T U E : TypeId} {p q : Operand} {i : Nat} {l r x : List UInt8} {v : Value} {xs : List Value} {K : Value → Pred → Prop} (hT : P.underlying T = some (.slice E)) (hU : P.underlying U = some .string) (hI : (P.info? E).map (fun i => (i.zero, i.size, i.bytes)) = some (some (.int .u8 0), 1, 1))
 (h : o.op = .call { callee := .builtin .append, args := #[p, q], argTypes := #[T, U] }) (hx : ev g p = some v) (hy : ev g q = some (mkS r)) (hi : ms[i]? = some (.row E encByte.size l.length v xs)) (hR : RL H encByte l xs) (hm : appO 1 l r = some x)
 (kk : ∀ ao cap ys, RL H encByte (l ++ r) (xs ++ ys) → K (.slice ao (l ++ r).length cap) (St w0 H0 (ms.set i (.row E encByte.size (l ++ r).length (.slice ao (l ++ r).length cap) (xs ++ ys))) H)) : OS P n o g (St w0 H0 ms H) K := fun a w f s next Q hn => by
 obtain ⟨i0, hi0, hz0, hz1, hz2⟩ := info_parts hI
 have si : w.ownsRow w0.heap.size E 1 v l.length xs := s.sat _ (List.mem_of_getElem? hi)
 have hsz : (ByteArray.mk r.toArray).size = r.length := by simp [ByteArray.size]
 obtain ⟨⟨hb1, hb2⟩, _⟩ := appO_some hm
 obtain ⟨v', w', hr, hown, hgr, hnil⟩ := Lib.run_append_own_string (P := P) w w0.heap.size T U o.type E i0 hT hU hi0 hz0 hz1 hz2 v l.length xs si ⟨r.toArray⟩ (by rw [hsz]; exact hb2) (by rw [hsz]; omega) s.below.size
 have hr' : (execOp a.eval o).run P w = .ok (.value v') w' := by
  simp [execOp, h, resolve, invoke, builtin, f.eval hx, f.eval hy, mkS, hr]
 have hblk := append_block_str hT hU hi0 hz0 hz1 hz2 si (by rw [hsz]; exact hb2) (by rw [hsz]; omega) hnil hr
 unfold Oper.wp
 rw [hr']
 rw [hsz, ← List.length_append] at hown
 have hv : ∃ ao cap, v' = .slice ao (l ++ r).length cap := by
  rcases hown.2 with ⟨e1, e2⟩ | ⟨b', c', _, e1, _⟩
  · exact ⟨none, 0, by rw [e1, e2]⟩
  · exact ⟨_, c', e1⟩
 obtain ⟨ao, cap, rfl⟩ := hv
 exact hn _ _ _ (kk ao cap _ (hR.append (RL.str H r))) (s.turn hi hgr hown hblk)
theorem eqGuard_ptr {op : BinOp} {t : TypeId} {x y : Operand} {a b : Option Addr} : eqGuard op t x y (.pointer a) (.pointer b) = pure () := by
 cases op <;> rfl
theorem ov_toUnsafe {S : Pred} {A B t e : TypeId} {x : Operand} {b sz : Nat} {cs : Array Value} (hA : P.underlying A = some (.pointer t)) (hB : P.underlying B = some .unsafePointer) (hs : (P.info? t).map (·.size) = some sz) (h0 : sz ≠ 0) (h : o.op = .convert A B x) (hx : ev g x = some (pB b 0)) (hh : ∀ w, S w → w.heap[b]? = some (.cells cs e (0, 0))) (hc : 0 < cs.size) : OV P n o g S (pB b 0) := fun a w f s => by
 obtain ⟨j, hj, hjs⟩ := Option.map_eq_some_iff.1 hs
 have e1 := Lib.run_to_unsafe (P := P) w (src := A) (dst := B) (cells := cs.size) (e := e) ⟨b, 0, none⟩ hA hB hj (by rw [hjs]; exact h0) (by simp [World.shape?, hh w s]) hc
 simp [execOp, h, f.eval hx, pB, e1]
theorem ov_fromUnsafe {S : Pred} {A B t e : TypeId} {x : Operand} {b sz : Nat} {cs : Array Value} (hA : P.underlying A = some .unsafePointer) (hB : P.underlying B = some (.pointer t)) (hs : (P.info? t).map (·.size) = some sz) (h : o.op = .convert A B x) (hx : ev g x = some (pB b 0)) (hh : ∀ w, S w → w.heap[b]? = some (.cells cs e (0, 0))) (hl : liesAt P P.depth e (cs.size / P.cellsOf e) 0 t 1 = true) : OV P n o g S (pB b 0) := fun a w f s => by
 obtain ⟨j, hj, hjs⟩ := Option.map_eq_some_iff.1 hs
 have e1 := Lib.run_from_unsafe (P := P) w (src := A) (dst := B) (cells := cs.size) (e := e) ⟨b, 0, none⟩ hA hB hj (by simp [World.shape?, hh w s]) hl
 simp [execOp, h, f.eval hx, pB, e1]
theorem ov_noEscape {S : Pred} {F : FuncId} {fn : Func} {x : Operand} {ats : Array TypeId} {v : Value} (hF : P.funcs[F]? = some fn) (hname : (fn.name == "runtime.NumGoroutine") = false) (hb : fn.body.isNone = true) (hnx : Extern.findNext fn = none) (he : Extern.find fn = some Extern.AbiNoEscape.same)
 (h : o.op = .call { callee := .value (.func F), args := #[x], argTypes := ats }) (hx : ev g x = some v) : OV P n o g S v := fun a w f s => by
 have e1 := run_callFunc_extern (P := P) hF hname hb hnx he #[v] w
 rw [Lib.run_noEscape] at e1
 simp only [Result.andThen_ok] at e1
 have hf : ev g (Operand.func F) = some (.func (.func F) #[] #[]) := rfl
 simp [execOp, h, resolve, invoke, f.eval hf, Deferred.ofValue, f.eval hx, e1]
def older (w0 : World) (H : Heap) : Heap := fun b => if b < w0.heap.size then H b else none
theorem older_le (w0 : World) (H : Heap) : Le (older w0 H) H := fun b o h => by
 unfold older at h
 split at h
 · exact h
 · cases h
theorem St.wiped {w w' : World} (h : St w0 H0 ms H w) (k : Below w0.heap.size w w') : St w0 H0 [] (older w0 H) w' := by
 refine ⟨fun b o e hb => h.old b o (older_le _ _ b o e) hb, h.below.trans k, fun b o e => ?_, fun e he => (by cases he), fun e he => (by cases he), List.Pairwise.nil⟩
 have e1 := h.hold b o (older_le _ _ b o e)
 have hb : b < w0.heap.size := by
  unfold older at e
  split at e
  · assumption
  · cases e
 show w'.heap[b]? = some o
 rw [k.block b hb]
 exact e1
theorem St.builder {w : World} {i j b : Nat} {T E : TypeId} {pv v : Value} {m : Nat} {xs : List Value} (h : St w0 H0 ms H w) (hi : ms[i]? = some (.blk b T [pv, v])) (hj : ms[j]? = some (.row E 1 m v xs)) : Lib.BuilderAt T E w0.heap.size b pv xs w := by
 have hr : w.ownsRow w0.heap.size E 1 v m xs := h.sat _ (List.mem_of_getElem? hj)
 have hl : m = xs.length := by rw [hr.1, Nat.mul_one]
 refine ⟨(h.own _ (List.mem_of_getElem? hi) b rfl).1, v, h.sat _ (List.mem_of_getElem? hi), by rw [← hl]; exact hr, fun e => ?_⟩
 obtain ⟨hi1, hi2⟩ := List.getElem?_eq_some_iff.1 hi
 obtain ⟨hj1, hj2⟩ := List.getElem?_eq_some_iff.1 hj
 have hp := List.pairwise_iff_getElem.1 h.apart
 rcases Nat.lt_trichotomy i j with k | k | k
 · have := hp i j hi1 hj1 k b (by rw [hi2]; rfl)
   rw [hj2] at this
   exact this e
 · subst k
   rw [hi2] at hj2
   cases hj2
 · have := hp j i hj1 hi1 k b (by rw [hj2]; exact e)
   rw [hi2] at this
   exact this rfl
end
theorem andT {c a : Bool} (h : c = true) : a = (c && a) := by rw [h]; cases a <;> rfl
theorem andF {c a : Bool} (h : c = false) : false = (c && a) := by rw [h]; cases a <;> rfl
theorem orT {c a : Bool} (h : c = true) : true = (c || a) := by rw [h]; cases a <;> rfl
theorem orF {c a : Bool} (h : c = false) : a = (c || a) := by rw [h]; cases a <;> rfl
theorem wq {F : Fence} [Free F] {P : Program} {n : Nat} {g : Frm} {S : Pred} {K : Frm → Pred → Prop} {ops : Array Oper} {l : List Oper} {o : Oper} {d : Nat} {v : Value} (hg : o.guard = none) (hd : o.dst = some d) (hn : okDst d n = true) (h : OV P n o g S v) (k : WL F P n ops l ((d, v) :: g) S K) : WL F P n ops (o :: l) g S K :=
 WL.quiet (Runs.free hg) hd hn (OV.quiet h) k
theorem tq {P : Program} {n fuel : Nat} {g : Frm} {S S₀ : Pred} {K : Frm → Pred → Prop} {L : List Oper} {o : Oper} {listed : Array Bool} {i d : Nat} {v : Value} (hi : L[i]? = some o) (hh : (Region.noSelect L.toArray && (Region.free .any L.toArray listed i && (Region.ready .any L.toArray listed).contains i)) = true)
 (hg : o.guard = none) (hd : o.dst = some d) (hn : okDst d n = true) (h : OV P n o g S₀ v) (k : AL P n L.toArray S₀ fuel (listed.setIfInBounds i true) ((d, v) :: g) S K) : AL P n L.toArray S₀ (fuel + 1) listed g S K := by
 rw [Bool.and_eq_true, Bool.and_eq_true] at hh
 exact AL.take hi hh.1 hh.2.1 hh.2.2 (Runs.free hg) hd hn h k
def lrec (st : LoopState) (pd : Option Code) (fid : FuncId) (T : Array Value) (ps : Array Tmp) (assign body : Code) (D : Nat) : Obj :=
 .loop { state := st, pending := pd, fn := fid, tmps := T, params := ps, assign, body, defers := D }
def parFrm : List Tmp → List Value → Frm → Frm
 | p :: ps, v :: vs, g => parFrm ps vs ((p, v) :: g)
 | _, _, g => g
theorem fits_par {n : Nat} : ∀ (ps : List Tmp) (vs : List Value) (g : Frm) (T : Array Value), (ps.all fun p => okDst p n) = true → ps.length = vs.length → Fits n g ⟨T, []⟩ →
 Fits n (parFrm ps vs g) ⟨(ps.zip vs).foldl (fun tmps (x : Tmp × Value) => tmps.setIfInBounds x.1 x.2) T, []⟩
 | [], [], g, T, _, _, f => f
 | p :: ps, v :: vs, g, T, h, hl, f => by
  rw [List.all_cons, Bool.and_eq_true] at h
  exact fits_par ps vs ((p, v) :: g) (T.setIfInBounds p v) h.2 (by simpa using hl) (f.put h.1 v)
 | [], _ :: _, _, _, _, hl, _ => by simp at hl
 | _ :: _, [], _, _, _, hl, _ => by simp at hl
section
variable {P : Program} {n : Nat} {o : Oper} {g : Frm} {w0 : World} {ms : List Ent} {H0 H : Heap}
theorem St.obj_put {w : World} {i b : Nat} {x y : Obj} (h : St w0 H0 ms H w) (hi : ms[i]? = some (.obj b x)) : St w0 H0 (ms.set i (.obj b y)) H (w.putObj b y) := by
 have hx : w.heap[b]? = some x := h.sat _ (List.mem_of_getElem? hi)
 have hlt := (Array.getElem?_eq_some_iff.1 hx).1
 refine h.turn hi ⟨rfl, rfl, rfl, by simp, fun k hk hne => World.putObj_heap_other (fun e => hne (by subst e; rfl))⟩ ?_ (fun c hc => .inl hc)
 exact World.putObj_heap_same hlt
def RecOf (R : LoopState → Option Code → Obj) (n : Nat) (g : Frm) (ps : List Tmp) (assign body : Code) (D : Nat) : Prop :=
 ∃ (fid : FuncId) (T : Array Value), (∀ st pd, R st pd = lrec st pd fid T ps.toArray assign body D) ∧ Fits n g ⟨T, []⟩
def AfterQ (w0 : World) (H0 : Heap) (l D : Nat) (R : LoopState → Option Code → Obj) (g : Frm) (Q : Exit → Frm → Pred → Prop) (S : Pred) : Prop :=
 ∃ (st : LoopState) (pd : Option Code) (ms : List Ent) (H : Heap), S = St w0 H0 (.obj l (R st pd) :: .obj D (.deferred (some [])) :: ms) H ∧ st ≠ .busy ∧
  match pd with
  | none => Q .normal ((markKey, .int .i64 D) :: g) (St w0 H0 (.obj D (.deferred (some [])) :: ms) H)
  | some .ret => Q .ret ((markKey, .int .i64 D) :: g) (St w0 H0 (.obj D (.deferred (some [])) :: ms) H)
  | some (.exit id) => Q (.exit id) ((markKey, .int .i64 D) :: g) (St w0 H0 (.obj D (.deferred (some [])) :: ms) H)
  | _ => False
section
variable {l D : Nat} {R : LoopState → Option Code → Obj} {Q : Exit → Frm → Pred → Prop}
end
theorem WP.range {gf : Operand} {ps : List Tmp} {assign body : Code} {F2 : FuncId} {fn2 : Func} {c2 : Code} {cap : List Value} {Q : Exit → Frm → Pred → Prop} (hc : ∀ args w, (callFunc F2 args).run P w = .ok (.enter F2 args) w)
 (hg : ev g gf = some (.func (.func F2) #[] cap.toArray)) (hf : P.funcs[F2]? = some fn2) (hb : fn2.body = some c2) (n2 : Nat) (hnt : fn2.ntmps = n2) (hn : Nat.ble (cap.length + 1) n2 = true)
 (k : ∀ (l D : Nat) (R : LoopState → Option Code → Obj), RecOf R n g ps assign body D →
  WP Fence.wide P n2 c2 (argFrm 0 (.func (.yield l) #[] #[] :: cap)) (St w0 H0 (.obj l (R .ready none) :: .obj D (.deferred (some [])) :: ms) H)
   (retQ n2 fn2 P fun _ w' => ∃ S', AfterQ w0 H0 l D R g Q S' ∧ S' w'))
 (hm : look g markKey = some (.bool false) := by rfl) (hk : Nat.ble (cap.length + 1) markKey = true := by rfl) : WP Fence.wide P n (.rangeFunc gf ps.toArray assign body) g (St w0 H0 ms H) Q := fun a w f s => by
 have hd : a.defers = [] := f.marks _ hm
 have ha : a = ⟨a.tmps, []⟩ := by cases a; simp_all
 refine wpIn_rangeFunc fun fid _ => ?_
 have hlrec : (Instr.enterLoop fid a.tmps ps.toArray assign body Fence.wide.round).run P w = _ := run_enterLoop_outer (P := P) (w := w) fid a.tmps ps.toArray assign body
 have s1 : St w0 H0 (.obj w.heap.size (.deferred (some [])) :: ms) H (w.alloc (.deferred (some []))) :=
  s.push ((Below.refl _ w).alloc (Nat.le_refl _) _) (World.alloc_heap_new w _) (fun b hb => by cases hb; exact Nat.le_refl _)
 have s2 := s1.push (e := .obj (w.heap.size + 1) (lrec .ready none fid a.tmps ps.toArray assign body w.heap.size)) ((Below.refl _ _).alloc (Nat.le_refl _) _)
  (by have := World.alloc_heap_new (w.alloc (.deferred (some []))) (lrec .ready none fid a.tmps ps.toArray assign body w.heap.size); rw [World.size_alloc] at this; exact this) (fun b hb => by cases hb; simp)
 have hcall := calls_of (w := (w.alloc (.deferred (some []))).alloc (lrec .ready none fid a.tmps ps.toArray assign body w.heap.size)) _ s2 hf hb n2 hnt (by simpa using hn) (k (w.heap.size + 1) w.heap.size (fun st pd => lrec st pd fid a.tmps ps.toArray assign body w.heap.size) ⟨fid, a.tmps, fun _ _ => rfl, by rw [← ha]; exact f⟩) (by simpa using hk)
 refine ⟨w.heap.size + 1, _, _, { target := .fn (.func F2) cap.toArray, args := #[.func (.yield (w.heap.size + 1)) #[] #[]] }, (w.alloc (.deferred (some []))).alloc (lrec .ready none fid a.tmps ps.toArray assign body w.heap.size), F2, _, _, hlrec, ?_, fun _ _ => trivial, ?_, fun h => (by cases h), callsIn_wide.2 (Calls.mono hcall ?_)⟩
 · simp [resolve, rangeCall, f.eval hg, Deferred.ofValue]
   exact ⟨rfl, rfl⟩
 · have := hc (#[.func (.yield (w.heap.size + 1)) #[] #[]] ++ cap.toArray) ((w.alloc (.deferred (some []))).alloc (lrec .ready none fid a.tmps ps.toArray assign body w.heap.size))
   simp only [invoke]
   simpa using this
 · rintro e w3 ⟨v, rfl, S', ⟨st, pd, ms', H', rfl, hst, hj⟩, s3⟩
   have hl : w3.heap[w.heap.size + 1]? = some (lrec st pd fid a.tmps ps.toArray assign body w.heap.size) := s3.sat _ (List.mem_cons_self ..)
   have s4 := (s3.obj_put (i := 0) (y := lrec .exhausted pd fid a.tmps ps.toArray assign body w.heap.size) rfl).less (List.sublist_cons_self _ _)
   have hfit : Fits n ((markKey, .int .i64 w.heap.size) :: g) { a with defers := [{ target := .collected w.heap.size, args := #[] }] ++ a.defers } := by
    refine ⟨fun v e => ?_, f.size, fun t v e ht => f.slots t v (by rw [look_cons, if_neg (fun q => ht q.symm)] at e; exact e) ht⟩
    rw [look_cons, if_pos rfl] at e
    cases e
    rw [hd]
    simp [defersOf]
   refine ⟨pd, _, run_endLoop hl hst, ?_⟩
   cases pd with
   | none => exact ⟨_, _, hfit, s4, hj⟩
   | some c =>
    cases c with
    | ret => exact wpIn_ret ⟨_, _, hfit, s4, hj⟩
    | exit id => exact wpIn_exit ⟨_, _, hfit, s4, hj⟩
    | _ => exact hj.elim
def roundQ (w0 : World) (H0 : Heap) (l : Nat) (R : LoopState → Option Code → Obj) (K : Bool → Pred → Prop) : Exit → Frm → Pred → Prop
 | .normal, _, S => ∃ i ms H, (∀ w, S w → St w0 H0 ms H w) ∧ ms[i]? = some (.obj l (R .busy none)) ∧ K true (St w0 H0 (ms.set i (.obj l (R .ready none))) H)
 | .ret, _, S => ∃ i ms H, (∀ w, S w → St w0 H0 ms H w) ∧ ms[i]? = some (.obj l (R .busy none)) ∧ K false (St w0 H0 (ms.set i (.obj l (R .done (some .ret)))) H)
 | .exit id, _, S => ∃ i ms H, (∀ w, S w → St w0 H0 ms H w) ∧ ms[i]? = some (.obj l (R .busy none)) ∧ K false (St w0 H0 (ms.set i (.obj l (R .done (some (.exit id))))) H)
 | _, _, _ => False
def beginQ (P : Program) (w0 : World) (H0 : Heap) (n l : Nat) (R : LoopState → Option Code → Obj) (body : Code) (Q : Exit → Frm → Pred → Prop) (g : Frm) (S : Pred) : Prop :=
 ∃ i ms H, S = St w0 H0 ms H ∧ ms[i]? = some (.obj l (R .ready none)) ∧ WP (Fence.wide.inRound l) P n body g (St w0 H0 (ms.set i (.obj l (R .busy none))) H) Q
def noQ : Exit → Frm → Pred → Prop := fun _ _ _ => False
section
variable {l i : Nat} {R : LoopState → Option Code → Obj} {K : Bool → Pred → Prop}
end
theorem WL.yield {ops : Array Oper} {L : List Oper} {K : Frm → Pred → Prop} {y : Operand} {xs : List Operand} {ats : Array TypeId} {vs : List Value} {i l D d nr : Nat} {R : LoopState → Option Code → Obj} {ps : List Tmp} {assign body : Code} {gr : Frm}
 (hr : Runs n ops g o) (hd : o.dst = some d) (hn : okDst d n = true) (h : o.op = .call { callee := .value y, args := xs.toArray, argTypes := ats }) (hy : ev g y = some (.func (.yield l) #[] #[])) (hx : evs g xs = some vs)
 (hrec : RecOf R nr gr ps assign body D) (hi : ms[i]? = some (.obj l (R .ready none))) (hps : (ps.all fun p => okDst p nr) = true) (hlen : ps.length = vs.length)
 (k : WP (Fence.wide.inRound l) P nr assign (parFrm ps vs gr) (St w0 H0 ms H) (thenQ (beginQ P w0 H0 nr l R body (roundQ w0 H0 l R fun b S' => WL Fence.wide P n ops L ((d, .bool b) :: g) S' K)) noQ)) :
 WL Fence.wide P n ops (o :: L) g (St w0 H0 ms H) K := fun a w f s Q hQ => by
 obtain ⟨fid, T, hR, hT⟩ := hrec
 obtain rfl : R = fun st pd => lrec st pd fid T ps.toArray assign body D := funext fun st => funext fun pd => hR st pd
 have hl : w.heap[l]? = some (lrec .ready none fid T ps.toArray assign body D) := s.sat _ (List.mem_of_getElem? hi)
 refine wpList_do (hr a f) ⟨fun _ _ => trivial, ?_⟩
 have hrun : (o.semAt Fence.wide.round a.eval).run P w = .ok (.round l fid ((ps.zip vs).foldl (fun tmps (x : Tmp × Value) => tmps.setIfInBounds x.1 x.2) T) assign body) w := by
  have h1 := run_yield (P := P) (args := vs.toArray) hl (by simp [hlen])
  show (execOp a.eval o).run P w = _
  simp only [execOp, h, resolve, Sem.run_bind]
  simp [invoke, f.eval hy, Deferred.ofValue, evs_arr hx a f]
  simpa using h1
 rw [hrun]
 refine ⟨fun q => (by cases q), roundIn_of_wpIn trivial ?_⟩
 refine Code.wpIn_mono ?_ (k _ w (fits_par ps vs gr T hps hlen hT) s)
 rintro e a1 w1 ⟨g', S', hf', hs', hq⟩
 cases e with
 | normal =>
  obtain ⟨j, ms1, H1, rfl, hj, hbody⟩ := hq
  have hl1 : w1.heap[l]? = some (lrec .ready none fid T ps.toArray assign body D) := hs'.sat _ (List.mem_of_getElem? hj)
  refine ⟨_, run_beginRound hl1 rfl, ?_⟩
  refine Code.wpIn_mono ?_ (hbody a1 _ hf' (hs'.obj_put hj))
  rintro e2 a2 w2 ⟨g2, S2, hf2, hs2, hq2⟩
  cases e2 with
  | normal =>
   obtain ⟨j2, ms2, H2, hS2, hj2, hk⟩ := hq2
   replace hs2 := hS2 _ hs2
   have hl2 : w2.heap[l]? = some (lrec .busy none fid T ps.toArray assign body D) := hs2.sat _ (List.mem_of_getElem? hj2)
   refine ⟨_, _, run_endRound none hl2, ?_⟩
   exact hk _ _ (by rw [hd]; exact f.put hn _) (hs2.obj_put hj2) Q hQ
  | ret =>
   obtain ⟨j2, ms2, H2, hS2, hj2, hk⟩ := hq2
   replace hs2 := hS2 _ hs2
   have hl2 : w2.heap[l]? = some (lrec .busy none fid T ps.toArray assign body D) := hs2.sat _ (List.mem_of_getElem? hj2)
   refine ⟨_, _, run_endRound (some .ret) hl2, ?_⟩
   exact hk _ _ (by rw [hd]; exact f.put hn _) (hs2.obj_put hj2) Q hQ
  | exit id =>
   obtain ⟨j2, ms2, H2, hS2, hj2, hk⟩ := hq2
   replace hs2 := hS2 _ hs2
   have hl2 : w2.heap[l]? = some (lrec .busy none fid T ps.toArray assign body D) := hs2.sat _ (List.mem_of_getElem? hj2)
   refine ⟨_, _, run_endRound (some (.exit id)) hl2, ?_⟩
   exact hk _ _ (by rw [hd]; exact f.put hn _) (hs2.obj_put hj2) Q hQ
  | goto _ => exact hq2.elim
  | panic _ => exact hq2.elim
  | outgrown => exact hq2.elim
 | exit id => exact hq.elim
 | ret => exact hq.elim
 | goto _ => exact hq.elim
 | panic _ => exact hq.elim
 | outgrown => exact hq.elim
end
section
variable {P : Program} {n : Nat} {o : Oper} {g : Frm} {S : Pred}
theorem ov_slice_arr {T E : TypeId} {x : Operand} {b m s : Nat} (hT : P.underlying T = some (.array m E)) (hs : ∀ w, (sizeOf E).run P w = .ok s w) (h : o.op = .slice T x none none none) (hx : ev g x = some (pB b 0)) (hm : Nat.blt 0 m = true) :
 OV P n o g S (.slice (some ⟨b, 0, none⟩) m m) := fun a w f _ => by
 have hm' : 0 < m := by simpa [Nat.blt_eq] using hm
 have hne : ¬ (m = 0) := by omega
 simp [execOp, h, f.eval hx, pB, Instr.sliceAt, run_underlying hT, Instr.slice, Instr.sliceBounds, hs, Instr.sureAddr, Addr.add]
theorem ov_indexAddr_at {T E : TypeId} {x y : Operand} {b k m s j : Nat} {kk : IntKind} {i : Int} (hT : P.underlying T = some (.array m E)) (hs : ∀ w, (sizeOf E).run P w = .ok s w) (h : o.op = .indexAddr T x y) (hx : ev g x = some (pB b k)) (hy : ev g y = some (.int kk i)) (hi : i = (j : Int)) (h1 : Nat.blt j m = true) :
 OV P n o g S (pB b (k + j * s)) := by
 subst hi
 have h1' : j < m := by simpa [Nat.blt_eq] using h1
 simpa using ov_indexAddr_arr (i := (j : Int)) hT hs h hx hy (by omega) (by omega)
theorem ov_indexAddr_bsl {T E : TypeId} {x y : Operand} {b k m c s j : Nat} {kk : IntKind} {i : Int} (hT : P.underlying T = some (.slice E)) (hs : ∀ w, (sizeOf E).run P w = .ok s w) (h : o.op = .indexAddr T x y) (hx : ev g x = some (.slice (some ⟨b, k, none⟩) m c)) (hy : ev g y = some (.int kk i)) (hi : i = (j : Int)) (h1 : Nat.blt j m = true) :
 OV P n o g S (pB b (k + j * s)) := by
 subst hi
 have h1' : j < m := by simpa [Nat.blt_eq] using h1
 have := ov_indexAddr (S := S) (P := P) (n := n) (i := (j : Int)) hT hs h hx hy (by omega) (by omega) ⟨_, rfl⟩
 have e : (if j * s = 0 then (⟨b, k, none⟩ : Addr) else ⟨b, k + j * s, none⟩) = ⟨b, k + j * s, none⟩ := by
  split
  · rename_i h0; rw [h0]; rfl
  · rfl
 simpa [pE, pB, Addr.add, e] using this
end
section
variable {P : Program} {n : Nat} {o : Oper} {g : Frm} {w0 : World} {ms : List Ent} {H0 H : Heap}
theorem run_bytes_str {P : Program} {w : World} {T T' e : TypeId} {ao : Option Addr} {l : List Int} {cap : Nat} (hT : P.underlying T = some (.slice e)) (hT' : P.underlying T' = some .string) (he : P.underlying e = some (.int .u8)) (hl : SL (hp w) (encInt .u8) ao l) :
 (convert T T' (.slice ao l.length cap)).run P w = .ok (mkS (bytesS l)) w := by
 cases l with
 | nil =>
  cases ao with
  | none => rw [List.length_nil, run_convert_bytes_nil w T e hT he 0 cap T' hT']; rfl
  | some ad =>
   rw [List.length_nil, run_convert_bytes_string w T T' e _ _ cap hT he hT', run_bytesToString w ad 0 cap [] (by simp [loadCells, loadCellsFrom])]
   rfl
 | cons x l =>
  obtain ⟨cs, hcs, hrow⟩ := hl 0 x rfl
  obtain rfl : cs = [.int .u8 x] := hcs
  obtain ⟨ad, had, hc0⟩ := hrow 0 _ rfl
  subst had
  have hsp : ad.spot = none := by
   have e0 : ad.add (0 * (encInt IntKind.u8).size + 0) = ad := by simp [Addr.add]
   rw [e0] at hc0
   unfold cellH at hc0
   split at hc0
   · by_cases hs : ad.spot.isSome
     · simp [hs] at hc0
     · simpa using hs
   · cases hc0
  obtain ⟨b, off, sp⟩ := ad
  cases hsp
  refine (run_convert_bytes_arg w T e hT he b off _ cap (x :: l) rfl (fun i hi => ?_) T' hT').trans ?_
  · have hi' : (x :: l)[i]? = some ((x :: l)[i]'hi) := List.getElem?_eq_getElem hi
    obtain ⟨cs, hcs, hrow⟩ := hl i _ hi'
    obtain rfl : cs = [.int .u8 ((x :: l)[i]'hi)] := hcs
    obtain ⟨ad, had, hc⟩ := hrow 0 _ rfl
    cases had
    have := cellH_world (Le.refl _) hc
    rw [addr_add] at this
    simp [encInt, Enc.flat] at this
    rw [this, List.getD_eq_getElem?_getD, hi']
    rfl
  · simp [strOfNums, mkS, bytesS]
end
section
variable {F : Fence} [Free F] {P : Program} {n : Nat} {o : Oper}
end
theorem RL.byte1 {H : Heap} {e : Int} (h : (decide (0 ≤ e) && decide (e ≤ 255)) = true) : RL H encByte [UInt8.ofNat e.toNat] [.int .u8 e] := by
 rw [Bool.and_eq_true, decide_eq_true_eq, decide_eq_true_eq] at h
 refine RL.one ?_
 have e1 : (((UInt8.ofNat e.toNat).toNat : Nat) : Int) = e := by simp; omega
 show [Value.int .u8 e] = [.int .u8 (((UInt8.ofNat e.toNat).toNat : Nat) : Int)]
 rw [e1]
section
variable {P : Program} {n : Nat} {o : Oper} {g : Frm} {w0 : World} {ms : List Ent} {H0 H : Heap}
theorem madeCells_at (z : Array Value) (m s : Nat) (hz : z.size = s) (hs : 0 < s) (i : Nat) (hi : i < m) : (((madeCells z (m * s)).toList.drop (i * s)).take s) = z.toList := by
 have hle : (i + 1) * s ≤ m * s := Nat.mul_le_mul_right s hi
 rw [Nat.add_mul] at hle
 apply List.ext_getElem?
 intro j
 rw [List.getElem?_take]
 by_cases hj : j < s
 · rw [if_pos hj, List.getElem?_drop]
   have h1 : i * s + j < m * s := by omega
   have h2 : (i * s + j) % s = j := by rw [Nat.add_comm, Nat.add_mul_mod_self_right]; exact Nat.mod_eq_of_lt hj
   unfold madeCells
   rw [Array.toList_map, List.getElem?_map, Array.toList_range, List.getElem?_range h1]
   simp only [Option.map_some]
   rw [hz, h2]
   have hj' : j < z.size := by omega
   simp [getElem!_pos z j hj']
 · rw [if_neg hj]
   symm
   rw [List.getElem?_eq_none]
   simp
   omega
theorem os_makeSlice {α : Type} {En : Enc α} {y0 : α} {T E : TypeId} {x y : Operand} {kl kc : IntKind} {m : Int} {bytes : Nat} {z : Value} {K : Value → Pred → Prop} (hT : P.underlying T = some (.slice E)) (hI : (P.info? E).map (fun i => (i.zero, i.size, i.bytes)) = some (some z, En.size, bytes))
 (hz : En.rep H y0 z.cells.toList) (hsz : 0 < En.size) (h : o.op = .makeSlice T x y) (hx : ev g x = some (.int kl m)) (hy : ev g y = some (.int kc m)) (hg : (decide (0 ≤ m) && decide (m * bytes ≤ 140737488355328) && decide (m ≤ 4611686018427387904)) = true)
 (k : ∀ b xs, RL H En (List.replicate (Int.toNat m) y0) xs → K (.slice (some ⟨b, 0, none⟩) (List.replicate (Int.toNat m) y0).length (Int.toNat m)) (St w0 H0 (.row E En.size (List.replicate (Int.toNat m) y0).length (.slice (some ⟨b, 0, none⟩) (List.replicate (Int.toNat m) y0).length (Int.toNat m)) xs :: ms) H)) : OS P n o g (St w0 H0 ms H) K := fun a w f s next Q hn => by
 rw [Bool.and_eq_true, Bool.and_eq_true, decide_eq_true_eq, decide_eq_true_eq, decide_eq_true_eq] at hg
 obtain ⟨⟨g0, g1⟩, g2⟩ := hg
 obtain ⟨i0, hi, he⟩ := Option.map_eq_some_iff.1 hI
 have e1 : i0.zero = some z := congrArg (fun p => p.1) he
 have e2 : i0.size = En.size := congrArg (fun p => p.2.1) he
 have e3 : i0.bytes = bytes := congrArg (fun p => p.2.2) he
 have hr := run_make (P := P) w T E i0 z hT hi e1 kl kc m m g0 (Int.le_refl _) (by rw [e3, Int.mul_comm]; omega) (by omega)
 rw [e2] at hr
 have hrl : RL H En (List.replicate (Int.toNat m) y0) (madeCells z.cells (m.toNat * En.size)).toList := by
  have hzs : z.cells.size = En.size := by have := En.len hz; simpa using this
  refine ⟨by simp [size_madeCells], fun i x hx => ?_⟩
  have hlt : i < m.toNat := by
   have := (List.getElem?_eq_some_iff.1 hx).1
   simpa using this
  have hxe : x = y0 := by
   rw [List.getElem?_replicate, if_pos hlt] at hx
   exact (Option.some.inj hx).symm
  subst hxe
  rw [madeCells_at _ _ _ hzs hsz i hlt]
  exact hz
 have hk := k w.heap.size _ hrl
 have el : (List.replicate (Int.toNat m) y0).length = m.toNat := List.length_replicate
 rw [el] at hk
 unfold Oper.wp
 have hr' : (execOp a.eval o).run P w = .ok (.value (.slice (some ⟨w.heap.size, 0, none⟩) m.toNat m.toNat)) (w.alloc (.cells (madeCells z.cells (m.toNat * En.size)) E)) := by
  simp [execOp, h, f.eval hx, f.eval hy, hr]
 rw [hr']
 refine hn _ _ _ hk (s.push ((Below.refl _ _).alloc (Nat.le_refl _) _) ?_ (fun b hb => by simp [Ent.at, Value.ownBlock] at hb; omega))
 exact ⟨by simp [size_madeCells], .inr ⟨w.heap.size, m.toNat, _, rfl, s.below.size, heap_alloc_new w _, Nat.le_refl _, by unfold maxLen; omega, size_madeCells _ _, by rw [List.take_of_length_le]; simp [size_madeCells]⟩⟩
theorem OS.weaken {S S₁ : Pred} {K : Value → Pred → Prop} (k : ∀ w, S w → S₁ w) (h : OS P n o g S₁ K) : OS P n o g S K := fun a w f s => h a w f (k w s)
theorem OS.held {α : Type} {E : Enc α} {l : List α} {T : TypeId} {sz cap : Nat} {ao : Option Addr} {xs : List Value} {K : Value → Pred → Prop} (hR : RL H E l xs) (k : ∀ H', l.length ≤ cap → Le H H' → SL H' E ao l → OS P n o g (St w0 H0 ms H') K) :
 OS P n o g (St w0 H0 (.row T sz l.length (.slice ao l.length cap) xs :: ms) H) K := fun a w f s => by
 obtain ⟨H', h1, h2, h3, h4⟩ := s.row_held hR
 exact k H' h1 h2 h3 a w f h4
theorem sl_arr_h {α : Type} {E : Enc α} {b : Nat} {l r : List α} {j : Int} (h : SL H E (some ⟨b, 0, none⟩) l) (hr : part? l 0 j = some r) :
 ∃ ao' c', (∀ {P : Program} {n : Nat} {o : Oper} {g : Frm} {S : Pred} {T Et : TypeId} {x z : Operand} {k' : IntKind}, P.underlying T = some (.array l.length Et) → (∀ w, (sizeOf Et).run P w = .ok E.size w) → o.op = .slice T x none (some z) none → ev g x = some (pB b 0) → ev g z = some (.int k' j) → OV P n o g S (.slice ao' r.length c')) ∧ SL H E ao' r ∧ r.length ≤ c' := by
 obtain ⟨h0, h1, h2, rfl⟩ := part?_some hr
 refine ⟨_, l.length - (0 : Int).toNat, fun {P n o g S T Et x z k'} hT hS ho hx hz a w f _ => ?_, sl_cut h (Nat.le_refl _) (show (0 : Int).toNat ≤ j.toNat by omega) (show j.toNat ≤ l.length by omega), by simp; omega⟩
 have hb : (Instr.sliceBounds false l.length l.length none (some (.int k' j)) none).run P w = .ok (0, j.toNat, l.length) w := by
  simp [Instr.sliceBounds, run_sliceBound, h1, h2]
 have hm : min j.toNat l.length = j.toNat := by omega
 simp [execOp, ho, f.eval hx, f.eval hz, pB, Instr.sliceAt, run_underlying hT, Instr.slice, hb, hS, Instr.sureAddr, Addr.add, hm]
end
def encSl {α : Type} (E : Enc α) : Enc (List α) where
 size := 1
 rep := fun H x cs => ∃ (ao1 : Option Addr) (cap1 : Nat), cs = [(.slice ao1 x.length cap1)] ∧ SL H E ao1 x ∧ x.length ≤ cap1
 len := fun h => by obtain ⟨_, _, rfl, _⟩ := h; rfl
 mono := fun k h => by
  obtain ⟨ao1, cap1, rfl, h1, hc1⟩ := h
  exact ⟨ao1, cap1, rfl, h1.mono k, hc1⟩
theorem sl_boxB {H : Heap} {b : Nat} {l : List Bool} (h : ∀ j u, (l.map Value.bool)[j]? = some u → cellH H ⟨b, j, none⟩ = some u) : SL H encBool (some ⟨b, 0, none⟩) l := fun i x hx => by
 refine ⟨_, rfl, fun j u hu => ?_⟩
 cases j with
 | succ j => simp at hu
 | zero =>
  simp at hu
  subst hu
  refine ⟨_, rfl, ?_⟩
  rw [addr_add]
  have := h i (.bool x) (by rw [List.getElem?_map, hx]; rfl)
  simpa [encBool, Enc.flat] using this
section
variable {P : Program} {n : Nat} {o : Oper} {g : Frm} {w0 : World} {ms : List Ent} {H0 H : Heap}
theorem OS.box_held {K : Value → Pred → Prop} {b : Nat} {Tb : TypeId} {cs : List Value} (k : ∀ H', Le H H' → (∀ j u, cs[j]? = some u → cellH H' ⟨b, j, none⟩ = some u) → OS P n o g (St w0 H0 ms H') K) :
 OS P n o g (St w0 H0 (.blk b Tb cs :: ms) H) K := fun a w f s => by
 obtain ⟨H', h1, h2, h3⟩ := s.box_held
 exact k H' h1 h2 a w f h3
theorem WP.box_held {F : Fence} {c : Code} {Q : Exit → Frm → Pred → Prop} {b : Nat} {Tb : TypeId} {cs : List Value} (k : ∀ H', Le H H' → (∀ j u, cs[j]? = some u → cellH H' ⟨b, j, none⟩ = some u) → WP F P n c g (St w0 H0 ms H') Q) :
 WP F P n c g (St w0 H0 (.blk b Tb cs :: ms) H) Q := fun a w f s => by
 obtain ⟨H', h1, h2, h3⟩ := s.box_held
 exact k H' h1 h2 a w f h3
end
theorem all_range_eqB : ∀ (xs ys : List Bool), xs.length = ys.length → ((List.range xs.length).all fun i => xs.getD i false == ys.getD i false) = (xs == ys)
 | [], [], _ => rfl
 | x :: xs, y :: ys, h => by
  have ih := all_range_eqB xs ys (by simpa using h)
  rw [List.length_cons, List.range_succ_eq_map, List.all_cons, List.all_map]
  simp only [List.getD_cons_zero, Function.comp_def, List.getD_cons_succ, ih]
  simp [List.cons_beq_cons]
 | [], _ :: _, h => by simp at h
 | _ :: _, [], h => by simp at h
theorem run_equalIn_bools {P : Program} (w : World) (d : Nat) (t e : TypeId) (n : Nat) (ht : P.underlying t = some (.array n e)) (he : P.underlying e = some .bool) (hsz : ∀ w, (sizeOf e).run P w = .ok 1 w)
 (xs ys : List Bool) (hx : xs.length = n) (hy : ys.length = n) :
 (Op.equalIn (d + 2) t (.agg (xs.map Value.bool).toArray) (.agg (ys.map Value.bool).toArray)).run P w = .ok (xs == ys) w := by
 rw [← all_range_eqB xs ys (hx.trans hy.symm), hx, List.range_eq_range', Op.equalIn]
 simp only [Sem.run_bind, run_underlying ht, Result.andThen_ok, hsz, Std.Legacy.Range.forIn_eq_forIn_range', Std.Legacy.Range.size, Nat.sub_zero, Nat.add_sub_cancel, Nat.div_one]
 have hl : ∀ i ∈ List.range' 0 n 1, i < n := fun i hi => by simpa using (List.mem_range'_1.1 hi).2
 generalize List.range' 0 n 1 = l at hl ⊢
 induction l with
 | nil => simp
 | cons i l ih =>
  have hi : i < n := hl i (by simp)
  have px : (part e (xs.map Value.bool).toArray (i * 1)).run P w = .ok (Value.bool (xs.getD i false)) w := by
   simp [part, isAgg, run_underlying he, List.getD, List.getElem?_eq_getElem (show i < xs.length by omega)]
  have py : (part e (ys.map Value.bool).toArray (i * 1)).run P w = .ok (Value.bool (ys.getD i false)) w := by
   simp [part, isAgg, run_underlying he, List.getD, List.getElem?_eq_getElem (show i < ys.length by omega)]
  have pe : (Op.equalIn (d + 1) e (Value.bool (xs.getD i false)) (Value.bool (ys.getD i false))).run P w = .ok (xs.getD i false == ys.getD i false) w := run_equalIn_bool' w d e _ _ he
  simp only [List.forIn_cons, Sem.run_bind, px, py, pe, Result.andThen_ok, List.all_cons]
  cases hb : (xs.getD i false == ys.getD i false)
  · simp
  · simp only [Bool.not_true, Bool.false_eq_true, if_false, Sem.run_pure, Result.andThen_ok, Bool.true_and]
    exact ih fun j hj => hl j (by simp [hj])
theorem ov_neq_bools {P : Program} {n : Nat} {o : Oper} {g : Frm} {S : Pred} {x y : Operand} {T T' e : TypeId} {m : Nat} {xs ys : List Bool} (hG : P.eqGuardType P.depth T = false) (ht : P.underlying T = some (.array m e)) (he : P.underlying e = some .bool) (hsz : ∀ w, (sizeOf e).run P w = .ok 1 w)
 (hl : xs.length = m) (hm : ys.length = m) (h : o.op = .binOp .neq T x y T') (hx : ev g x = some (.agg (xs.map Value.bool).toArray)) (hy : ev g y = some (.agg (ys.map Value.bool).toArray)) : OV P n o g S (.bool (!(xs == ys))) := fun a w f _ => by
 have h1 := run_equalIn_bools (P := P) w 9998 T e m ht he hsz xs ys hl hm
 have h2 := run_neq_struct (P := P) w T (xs.map Value.bool).toArray (ys.map Value.bool).toArray
 rw [h1] at h2
 have h3 := run_eqGuard_agg (P := P) w .neq T x y (xs.map Value.bool).toArray (ys.map Value.bool).toArray hG
 simp only [execOp, h, f.eval hx, f.eval hy, Sem.run_bind, h3, Result.andThen_ok, h2, Sem.run_pure]
section
variable {P : Program} {n : Nat} {o : Oper} {g : Frm} {w0 : World} {ms : List Ent} {H0 H : Heap}
theorem WL.within {F : Fence} {ops : Array Oper} {L : List Oper} {K : Frm → Pred → Prop} (k : ∀ w1, St w0 H0 ms H w1 → WL F P n ops L g (St w1 (hp w1) [] (hp w1)) K) : WL F P n ops L g (St w0 H0 ms H) K := fun a w f s =>
 k w s a w f (St.start w (hp w) (Le.refl _))
theorem St.box_row {w : World} {i b : Nat} {T : TypeId} {cs : List Value} (h : St w0 H0 ms H w) (hi : ms[i]? = some (.blk b T cs)) : RowAt (hp w) (some ⟨b, 0, none⟩) 0 cs := fun j u hu => by
 have hs : w.heap[b]? = some (.cells cs.toArray T (0, 0)) := h.sat _ (List.mem_of_getElem? hi)
 refine ⟨⟨b, 0, none⟩, rfl, ?_⟩
 rw [Nat.zero_add, addr_add, Nat.zero_add]
 unfold cellH hp
 rw [hs]
 simp [hu]
theorem os_makeSlice_n {T E : TypeId} {x y : Operand} {kl kc : IntKind} {m : Int} {N sz bytes : Nat} {z : Value} {cs : List Value} {K : Value → Pred → Prop} (hT : P.underlying T = some (.slice E)) (hI : (P.info? E).map (fun i => (i.zero, i.size, i.bytes)) = some (some z, sz, bytes))
 (hcs : (madeCells z.cells (N * sz)).toList = cs) (h : o.op = .makeSlice T x y) (hx : ev g x = some (.int kl m)) (hy : ev g y = some (.int kc m)) (hm : m = (N : Int)) (h1 : N * bytes ≤ 140737488355328) (h2 : N ≤ 4611686018427387904)
 (k : ∀ b, K (.slice (some ⟨b, 0, none⟩) N N) (St w0 H0 (.blk b E cs :: ms) H)) : OS P n o g (St w0 H0 ms H) K := fun a w f s next Q hn => by
 obtain ⟨i0, hi, he⟩ := Option.map_eq_some_iff.1 hI
 have e1 : i0.zero = some z := congrArg (fun p => p.1) he
 have e2 : i0.size = sz := congrArg (fun p => p.2.1) he
 have e3 : i0.bytes = bytes := congrArg (fun p => p.2.2) he
 have hb : (bytes : Int) * m ≤ 140737488355328 := by
  subst hm
  have : ((N * bytes : Nat) : Int) ≤ 140737488355328 := by omega
  rw [Int.mul_comm]
  simpa using this
 have hr := run_make (P := P) w T E i0 z hT hi e1 kl kc m m (by omega) (Int.le_refl _) (by rw [e3]; omega) (by omega)
 rw [e2, show m.toNat = N by omega] at hr
 unfold Oper.wp
 have hr' : (execOp a.eval o).run P w = .ok (.value (.slice (some ⟨w.heap.size, 0, none⟩) N N)) (w.alloc (.cells (madeCells z.cells (N * sz)) E)) := by
  simp [execOp, h, f.eval hx, f.eval hy, hr]
 rw [hr']
 have ha : madeCells z.cells (N * sz) = cs.toArray := by rw [← hcs]
 rw [ha]
 exact hn _ _ _ (k w.heap.size) (s.alloc E cs)
theorem St.blk_rowN {w : World} {b N sz : Nat} {E : TypeId} {cs : List Value} (h : St w0 H0 (.blk b E cs :: ms) H w) (hl : cs.length = N * sz) (hm : N ≤ maxLen) : St w0 H0 (.row E sz N (.slice (some ⟨b, 0, none⟩) N N) cs :: ms) H w := by
 have hs : w.heap[b]? = some (.cells cs.toArray E (0, 0)) := h.sat _ (List.mem_cons_self ..)
 have hb := (h.own _ (List.mem_cons_self ..) b rfl).1
 refine ⟨h.old, h.below, h.hold, fun e he => ?_, fun e he c hc => ?_, ?_⟩
 · rcases List.mem_cons.1 he with rfl | he
   · exact ⟨hl, .inr ⟨b, N, cs.toArray, rfl, hb, hs, Nat.le_refl _, hm, by simpa using hl, by rw [← hl]; simp⟩⟩
   · exact h.sat e (List.mem_cons_of_mem _ he)
 · rcases List.mem_cons.1 he with rfl | he
   · simp only [Ent.at, Value.ownBlock, Option.some.injEq] at hc
     subst hc
     exact h.own _ (List.mem_cons_self ..) b rfl
   · exact h.own e (List.mem_cons_of_mem _ he) c hc
 · obtain ⟨h1, h2⟩ := List.pairwise_cons.1 h.apart
   refine List.pairwise_cons.2 ⟨fun y hy c hc => ?_, h2⟩
   simp only [Ent.at, Value.ownBlock, Option.some.injEq] at hc
   subst hc
   exact h1 y hy b rfl
abbrev iterO (s : List UInt8) (p : Nat) : Obj := .stringIter ⟨s.toArray⟩ p
def decW (s : List UInt8) (p : Nat) : Nat × Nat := Utf8.decode ⟨s.toArray⟩ p
theorem os_range {T : TypeId} {x : Operand} {s : List UInt8} {K : Value → Pred → Prop} (hT : P.underlying T = some .string) (h : o.op = .range T x) (hx : ev g x = some (mkS s)) (k : ∀ b, K (pB b 0) (St w0 H0 (.obj b (iterO s 0) :: ms) H)) : OS P n o g (St w0 H0 ms H) K := fun a w f st next Q hn => by
 have hr := run_range_string (P := P) w T ⟨s.toArray⟩ hT
 have hr' : (execOp a.eval o).run P w = .ok (.value (pB w.heap.size 0)) (w.iter ⟨s.toArray⟩ 0) := by
  simp [execOp, h, f.eval hx, mkS, hr, pB]
 unfold Oper.wp
 rw [hr']
 exact hn _ _ _ (k _) (st.push ((Below.refl _ _).alloc (Nat.le_refl _) _) (World.iter_heap w _ _) (fun b hb => by simp [Ent.at] at hb; omega))
theorem os_next_t {x : Operand} {b p i : Nat} {s : List UInt8} {K : Value → Pred → Prop} (h : o.op = .next x true) (hx : ev g x = some (pB b 0)) (hi : ms[i]? = some (.obj b (iterO s p))) (hp : p < s.length)
 (k : K (.tuple #[.bool true, .int .i64 (p : Int), .int .i32 ((decW s p).1 : Int)]) (St w0 H0 (ms.set i (.obj b (iterO s (p + (decW s p).2)))) H)) : OS P n o g (St w0 H0 ms H) K := fun a w f st next Q hn => by
 have hk : w.heap[b]? = some (.stringIter ⟨s.toArray⟩ p) := st.sat _ (List.mem_of_getElem? hi)
 have hr := Lib.run_next_any_at (P := P) w b ⟨s.toArray⟩ p o.type hk (by simpa [ByteArray.size] using hp)
 have hr' : (execOp a.eval o).run P w = .ok (.value (.tuple #[.bool true, .int .i64 (p : Int), .int .i32 ((decW s p).1 : Int)])) (w.iterAt b ⟨s.toArray⟩ (p + (decW s p).2)) := by
  simp only [execOp, h, f.eval hx, pB, Sem.run_bind, hr, Result.andThen_ok, Sem.run_pure]
  rfl
 unfold Oper.wp
 rw [hr']
 refine hn _ _ _ k (st.turn hi ⟨rfl, rfl, rfl, by rw [Lib.iterAt_size]; exact Nat.le_refl _, fun j _ hj => Lib.iterAt_other w b j _ _ (fun e => hj (by rw [e]; rfl))⟩ (Lib.iterAt_heap w b _ p _ hk) (fun c hc => .inl hc))
theorem os_next_f {x : Operand} {b p i : Nat} {s : List UInt8} {K : Value → Pred → Prop} (h : o.op = .next x true) (hx : ev g x = some (pB b 0)) (hi : ms[i]? = some (.obj b (iterO s p))) (hp : ¬ p < s.length)
 (k : K (.tuple #[.bool false]) (St w0 H0 ms H)) : OS P n o g (St w0 H0 ms H) K := fun a w f st next Q hn => by
 have hk : w.heap[b]? = some (.stringIter ⟨s.toArray⟩ p) := st.sat _ (List.mem_of_getElem? hi)
 have hr := Lib.run_next_end_at (P := P) w b ⟨s.toArray⟩ p o.type hk (by simpa [ByteArray.size] using hp)
 have hr' : (execOp a.eval o).run P w = .ok (.value (.tuple #[.bool false])) w := by
  simp only [execOp, h, f.eval hx, pB, Sem.run_bind, hr, Result.andThen_ok, Sem.run_pure]
 unfold Oper.wp
 rw [hr']
 exact hn _ _ _ k st
theorem bytesRow_take (s : List UInt8) (cap : Nat) : ((bytesRow ⟨s.toArray⟩ cap).toList).take s.length = Lib.byteCells s := by
 unfold bytesRow Lib.byteCells
 simp
theorem RL.ofBytes (H : Heap) (s : List UInt8) : RL H encByte s (Lib.byteCells s) := by
 have := RL.str H s
 have e : Lib.strCells ⟨s.toArray⟩ = Lib.byteCells s := by simp [Lib.strCells, Lib.byteCells]
 rwa [e] at this
theorem os_bytes_own {A B e : TypeId} {x : Operand} {s : List UInt8} {K : Value → Pred → Prop} (hA : P.underlying A = some .string) (hB : P.underlying B = some (.slice e)) (he : P.underlying e = some (.int .u8)) (h : o.op = .convert A B x) (hx : ev g x = some (mkS s)) (hl : decide (s.length ≤ 140737488355328) = true)
 (k : ∀ ao cap xs, RL H encByte s xs → K (.slice ao s.length cap) (St w0 H0 (.mrow e s.length (.slice ao s.length cap) xs :: ms) H)) : OS P n o g (St w0 H0 ms H) K := fun a w f st next Q hn => by
 have hl := of_decide_eq_true hl
 have hsz : (ByteArray.mk s.toArray).size = s.length := by simp [ByteArray.size]
 have hc := run_bytes_of_string (P := P) w A B e ⟨s.toArray⟩ hA hB he
 rw [hsz] at hc
 have hr : (execOp a.eval o).run P w = .ok (.value (.slice (some ⟨w.heap.size, 0, none⟩) s.length (grownCap w s.length 0 e))) (w.drew.alloc (.cells (bytesRow ⟨s.toArray⟩ (grownCap w s.length 0 e)) e ((bytesRow ⟨s.toArray⟩ (grownCap w s.length 0 e)).size, (bytesRow ⟨s.toArray⟩ (grownCap w s.length 0 e)).size + 1))) := by
  simp only [execOp, h, f.eval hx, mkS, Sem.run_bind, hc, Result.andThen_ok, Sem.run_pure]
 unfold Oper.wp
 rw [hr]
 have hb : Below w.heap.size w (w.drew.alloc (.cells (bytesRow ⟨s.toArray⟩ (grownCap w s.length 0 e)) e ((bytesRow ⟨s.toArray⟩ (grownCap w s.length 0 e)).size, (bytesRow ⟨s.toArray⟩ (grownCap w s.length 0 e)).size + 1))) :=
  ((Below.refl _ _).drew).alloc (Nat.le_refl _) _
 have hge := grownCap_ge w s.length 0 e
 have hm := grownCap_le_maxLen w s.length 0 e (by unfold maxLen; omega)
 have hbs : (bytesRow ⟨s.toArray⟩ (grownCap w s.length 0 e)).size = grownCap w s.length 0 e := by
  unfold bytesRow
  simp [ByteArray.size]
  omega
 refine hn _ _ _ (k (some ⟨w.heap.size, 0, none⟩) (grownCap w s.length 0 e) (Lib.byteCells s) (RL.ofBytes H s)) (st.push hb ?_ (fun b hb => by simp [Ent.at, Value.ownBlock] at hb; omega))
 exact ⟨by simp [Lib.byteCells], w.heap.size, grownCap w s.length 0 e, _, _, rfl, st.below.size, heap_alloc_new w.drew _, fun i hi hq => by dsimp only at hq; omega, hge, hm, hbs, bytesRow_take s _⟩
theorem mrow_cells {w : World} {base m : Nat} {e : TypeId} {v : Value} {xs : List Value} (h : ownsM w base e v m xs) {b : Nat} (hb : v.ownBlock = some b) : ∀ j u, xs[j]? = some u → w.cell? ⟨b, j, none⟩ = some u := fun j u hu => by
 obtain ⟨_, g, cap, cur, fz, rfl, _, hg, _, _, _, _, ht⟩ := h
 simp only [Value.ownBlock, Option.some.injEq] at hb
 subst hb
 have : cur[j]? = some u := by
  rw [← ht, List.getElem?_take] at hu
  split at hu
  · simpa using hu
  · cases hu
 simp [World.cell?, hg, this]
theorem run_storeCells_m (P : Program) (b off : Nat) (t : TypeId) (fz : Nat × Nat) : ∀ (vs : List Value) (i : Nat) (cur : Array Value) (w : World), w.heap[b]? = some (.cells cur t fz) → (∀ j, j < cur.size → ¬ (fz.1 ≤ j ∧ j < fz.2)) → off + i + vs.length ≤ cur.size → (∀ v ∈ vs, v.oneCell' = true) →
 (storeCells ⟨b, off, none⟩ vs i).run P w = .ok () (w.setRow b (cur.toList.take (off + i) ++ vs ++ cur.toList.drop (off + i + vs.length)).toArray)
 | [], i, cur, w, hg, _, _, _ => by
  simp only [storeCells, List.append_nil, List.length_nil, Nat.add_zero, List.take_append_drop, Array.toArray_toList]
  rw [setRow_self w b cur t fz hg]
  rfl
 | v :: rest, i, cur, w, hg, hfz, hl, h1 => by
  have hi : off + i < cur.size := by simp at hl; omega
  have hadd : (⟨b, off, none⟩ : Addr).add i = ⟨b, off + i, none⟩ := addr_add b off i
  have hcell : w.cell? ⟨b, off + i, none⟩ = some cur[off + i] := by simp [World.cell?, hg, hi]
  have hfro : w.frozen? ⟨b, off + i, none⟩ = false := by
   have hq := hfz _ hi
   obtain ⟨lo, hi'⟩ := fz
   simp only [World.frozen?, hg, Bool.and_eq_false_iff, decide_eq_false_iff_not]
   dsimp only at hq
   omega
  have hst : (store ((⟨b, off, none⟩ : Addr).add i) v).run P w = .ok () (w.setRow b (cur.setIfInBounds (off + i) v)) := by
   rw [hadd, run_store P w _ v _ (h1 v (by simp)), hcell]
   simp [hfro, setCell_eq_setRow w b (off + i) cur t fz v hg]
  have ih := run_storeCells_m P b off t fz rest (i + 1) (cur.setIfInBounds (off + i) v) (w.setRow b (cur.setIfInBounds (off + i) v)) (setRow_heap w b cur _ t _ hg) (fun j hj => hfz j (by simpa using hj)) (by simp at hl ⊢; omega) (fun x hx => h1 x (by simp [hx]))
  simp only [storeCells, Sem.run_bind, hst, Result.andThen_ok, ih, setRow_setRow]
  congr 3
  have e := list_seg_step cur.toList (off + i) v rest (by simp at hl ⊢; omega)
  simpa [Array.toList_setIfInBounds, Nat.add_assoc] using e
theorem os_app_m {T E : TypeId} {p q : Operand} {i j c b : Nat} {l r x : List UInt8} {ao : Option Addr} {cap : Nat} {xs ys : List Value} {K : Value → Pred → Prop} (hT : P.underlying T = some (.slice E)) (hI : (P.info? E).map (fun i => (i.zero, i.size, i.bytes)) = some (some (.int .u8 0), 1, 1))
 (h : o.op = .call { callee := .builtin .append, args := #[p, q], argTypes := #[T, T] }) (hx : ev g p = some (.slice ao l.length cap)) (hy : ev g q = some (.slice (some ⟨b, 0, none⟩) r.length c)) (hi : ms[i]? = some (.mrow E l.length (.slice ao l.length cap) xs)) (hj : ms[j]? = some (.row E encByte.size r.length (.slice (some ⟨b, 0, none⟩) r.length c) ys))
 (hR : RL H encByte l xs) (hR' : RL H encByte r ys) (hm : appO 1 l r = some x)
 (k : ∀ ao' cap' xs', RL H encByte (l ++ r) xs' → K (.slice ao' (l ++ r).length cap') (St w0 H0 (ms.set i (.mrow E (l ++ r).length (.slice ao' (l ++ r).length cap') xs')) H)) : OS P n o g (St w0 H0 ms H) K := fun a w f s next Q hn => by
 obtain ⟨⟨hm1, hm2⟩, _⟩ := appO_some hm
 obtain ⟨i0, hinfo, he⟩ := Option.map_eq_some_iff.1 hI
 have e1 : i0.zero = some (.int .u8 0) := congrArg (fun p => p.1) he
 have e2 : i0.size = 1 := congrArg (fun p => p.2.1) he
 have e3 : i0.bytes = 1 := congrArg (fun p => p.2.2) he
 have hM : ownsM w w0.heap.size E (.slice ao l.length cap) l.length xs := s.sat _ (List.mem_of_getElem? hi)
 have hrow : w.ownsRow w0.heap.size E encByte.size (.slice (some ⟨b, 0, none⟩) r.length c) r.length ys := s.sat _ (List.mem_of_getElem? hj)
 have hnews : ∀ j u, ys[j]? = some u → w.cell? ((⟨b, 0, none⟩ : Addr).add j) = some u := hrow.cells rfl
 have hyl : ys.length = r.length := by have := hR'.1; simpa [encByte, Enc.flat] using this
 have hxl : xs.length = l.length := by have := hR.1; simpa [encByte, Enc.flat] using this
 have hy1 : ∀ u ∈ ys, u.oneCell' = true := fun u hu => by
  rw [hR'.bytes] at hu
  obtain ⟨z, _, rfl⟩ := List.mem_map.1 hu
  rfl
 have hlen : (l ++ r).length = l.length + r.length := by simp
 have hRa := hR.append hR'
 have hbase := s.below.size
 obtain ⟨_, gb, cap', cur, fz, hv, hbg, hg, hfz, hnc, hcm, hcs, htake⟩ := hM
 injection hv with hv1 hv2 hv3
 subst hv1
 subst hv3
 unfold Oper.wp execOp
 simp only [h, resolve, invoke, builtin, Sem.run_bind, Sem.run_pure, Result.andThen_ok, List.map_toArray, List.map_cons, List.map_nil, f.eval hx, f.eval hy]
 by_cases hroom : l.length + r.length ≤ cap
 · have hf := run_firstCells_some (P := P) w 1 r.length ⟨b, 0, none⟩ r.length c ys (by omega) hnews
   have hst := run_storeCells_m P gb l.length E fz ys 0 cur w hg hfz (by omega) hy1
   simp only [Nat.add_zero] at hst
   have hr : (Builtin.append_ #[T, T] o.type #[.slice (some ⟨gb, 0, none⟩) l.length cap, .slice (some ⟨b, 0, none⟩) r.length c]).run P w =
    .ok (.slice (some ⟨gb, 0, none⟩) (l.length + r.length) cap) (w.setRow gb (cur.toList.take l.length ++ ys ++ cur.toList.drop (l.length + ys.length)).toArray) := by
    simp [Builtin.append_, run_underlying hT, sizeOf, typeInfo, hinfo, e2, Builtin.lenOf, hroom, hf, Addr.add_lit, hst]
   rw [hr]
   have hk := k (some ⟨gb, 0, none⟩) cap (xs ++ ys) hRa
   rw [hlen] at hk
   refine hn _ _ _ hk (s.turn hi (grownBy_setRow w gb _) ?_ (fun c hc => .inl hc))
   refine ⟨by simp; omega, gb, cap, _, fz, rfl, hbg, setRow_heap w gb cur _ E _ hg, fun i hi => hfz i ?_, hroom, hcm, ?_, ?_⟩
   · simp at hi; omega
   · simp; omega
   · rw [List.toList_toArray, htake, show l.length + r.length = (xs ++ ys).length by simp; omega]
     exact List.take_left
 · have hcells : ∀ j u, xs[j]? = some u → w.cell? ((⟨gb, 0, none⟩ : Addr).add j) = some u := fun j u hu => by
    rw [addr_add, Nat.zero_add]
    exact mrow_cells (s.sat _ (List.mem_of_getElem? hi)) rfl j u hu
   have hr := run_append_grow (P := P) w T o.type E i0 (.int .u8 0) hT hinfo e1 ⟨gb, 0, none⟩ l.length cap xs (by rw [e2]; omega) hcells ⟨b, 0, none⟩ r.length c ys (by rw [e2]; omega) hnews (by omega) (by unfold maxLen at hm2; omega) (growslice_fits (by omega) (by rw [e3]; exact hm1))
   rw [hr]
   have hge := grownCap_ge w (l.length + r.length) cap E
   have hcm2 := grownCap_le_maxLen w (l.length + r.length) cap E hm2
   have hk := k (some ⟨w.heap.size, 0, none⟩) (grownCap w (l.length + r.length) cap E) (xs ++ ys) hRa
   rw [hlen] at hk
   refine hn _ _ _ hk (s.turn hi ⟨rfl, rfl, rfl, by simp, fun k hk _ => heap_alloc_old w.drew _ (show k < w.drew.heap.size from hk)⟩ ?_ (fun c hc => .inr (by simp [Ent.at, Value.ownBlock] at hc; omega)))
   refine ⟨by simp; omega, w.heap.size, _, _, (0, 0), rfl, hbase, heap_alloc_new w.drew _, fun i hi hq => by dsimp only at hq; omega, hge, hcm2, ?_, ?_⟩
   · have hz1 : (Value.int IntKind.u8 0).cells.size = 1 := rfl
     simp only [Array.size_append, List.size_toArray, size_zeroCells, hz1]
     omega
   · simp only [Array.toList_append, List.append_assoc]
     rw [← List.append_assoc, show l.length + r.length = (xs ++ ys).length by simp; omega]
     exact List.take_left
theorem bytesS_I (s : List UInt8) : bytesS (bytesI s) = s := by
 unfold bytesS bytesI
 rw [List.map_map]
 have : ((fun i : Int => UInt8.ofNat i.toNat) ∘ fun b : UInt8 => (b.toNat : Int)) = id := by
  funext b
  simp
 rw [this, List.map_id]
theorem sl_bytesI {H' : Heap} {ao : Option Addr} {l : List UInt8} (h : SL H' encByte ao l) : SL H' (encInt .u8) ao (bytesI l) := fun i x hx => by
 unfold bytesI at hx
 rw [List.getElem?_map] at hx
 obtain ⟨b, hb, rfl⟩ := Option.map_eq_some_iff.1 hx
 obtain ⟨cs, h1, h2⟩ := h i b hb
 exact ⟨cs, h1, h2⟩
theorem ov_bytes_str_ownB {T T' e E' : TypeId} {x : Operand} {ao : Option Addr} {l : List UInt8} {xs : List Value} {cap i sz : Nat} (hT : P.underlying T = some (.slice e)) (hT' : P.underlying T' = some .string) (he : P.underlying e = some (.int .u8)) (hR : RL H encByte l xs)
 (hi : ms[i]? = some (.row E' sz l.length (.slice ao l.length cap) xs)) (h : o.op = .convert T T' x) (hx : ev g x = some (.slice ao l.length cap)) : OV P n o g (St w0 H0 ms H) (mkS l) := fun a w f s => by
 have key := run_bytes_str (P := P) (w := w) (cap := cap) hT hT' he (sl_bytesI (s.row_arg hi hR).1)
 rw [bytesS_I, show (bytesI l).length = l.length by simp [bytesI]] at key
 simp only [execOp, h, f.eval hx, Sem.run_bind, key, Result.andThen_ok, Sem.run_pure]
theorem ov_bytes_str_ownBm {T T' e E' : TypeId} {x : Operand} {ao : Option Addr} {l : List UInt8} {xs : List Value} {cap i : Nat} (hT : P.underlying T = some (.slice e)) (hT' : P.underlying T' = some .string) (he : P.underlying e = some (.int .u8)) (hR : RL H encByte l xs)
 (hi : ms[i]? = some (.mrow E' l.length (.slice ao l.length cap) xs)) (h : o.op = .convert T T' x) (hx : ev g x = some (.slice ao l.length cap)) : OV P n o g (St w0 H0 ms H) (mkS l) := fun a w f s => by
 have hM : ownsM w w0.heap.size E' (.slice ao l.length cap) l.length xs := s.sat _ (List.mem_of_getElem? hi)
 have hsl : SL (hp w) encByte ao l := by
  have hM2 := hM
  obtain ⟨_, gb, cap', cur, fz, hv, _⟩ := hM2
  injection hv with hv1 hv2 hv3
  subst hv1
  refine (hR.mono s.hold).row fun j u hu => ⟨⟨gb, 0, none⟩, rfl, ?_⟩
  have hc := mrow_cells hM (b := gb) rfl j u hu
  rw [Nat.zero_add, addr_add, Nat.zero_add]
  exact hc
 have key := run_bytes_str (P := P) (w := w) (cap := cap) hT hT' he (sl_bytesI hsl)
 rw [bytesS_I, show (bytesI l).length = l.length by simp [bytesI]] at key
 simp only [execOp, h, f.eval hx, Sem.run_bind, key, Result.andThen_ok, Sem.run_pure]
end
section
variable {F : Fence} [Free F] {P : Program} {n : Nat} {g : Frm} {S : Pred} {K : Frm → Pred → Prop} {ops : Array Oper} {l : List Oper} {o : Oper} {d : Nat} {v : Value} {x : Operand} {w0 : World} {ms : List Ent} {H0 H : Heap}
theorem V (hq : (o.guard, o.dst, okDst d n) = (none, some d, true)) (h : OV P n o g S v) (k : WL F P n ops l ((d, v) :: g) S K) : WL F P n ops (o :: l) g S K := by
 obtain ⟨h1, h2⟩ := Prod.mk.inj hq
 obtain ⟨h2, h3⟩ := Prod.mk.inj h2
 exact wq h1 h2 h3 h k
theorem Vm (hq : (o.guard, o.dst, okDst d n, o.op, ev g x) = (none, some d, true, Op.move x, some v)) (k : WL F P n ops l ((d, v) :: g) S K) : WL F P n ops (o :: l) g S K := by
 obtain ⟨h1, h2⟩ := Prod.mk.inj hq
 obtain ⟨h2, h3⟩ := Prod.mk.inj h2
 obtain ⟨h3, h4⟩ := Prod.mk.inj h3
 obtain ⟨h4, h5⟩ := Prod.mk.inj h4
 exact wq h1 h2 h3 (ov_move h4 h5) k
theorem Va (hq : (o.guard, o.dst, okDst d n, o.op, ev g x) = (none, some d, true, Op.assign x, some v)) (k : WL F P n ops l ((d, v) :: g) S K) : WL F P n ops (o :: l) g S K := by
 obtain ⟨h1, h2⟩ := Prod.mk.inj hq
 obtain ⟨h2, h3⟩ := Prod.mk.inj h2
 obtain ⟨h3, h4⟩ := Prod.mk.inj h3
 obtain ⟨h4, h5⟩ := Prod.mk.inj h4
 exact wq h1 h2 h3 (ov_assign h4 h5) k
theorem Ve {vs : Array Value} {i : Nat} (hq : (o.guard, o.dst, okDst d n, o.op, ev g x, vs[i]?) = (none, some d, true, Op.extract x i, some (.tuple vs), some v)) (k : WL F P n ops l ((d, v) :: g) S K) : WL F P n ops (o :: l) g S K := by
 obtain ⟨h1, h2⟩ := Prod.mk.inj hq
 obtain ⟨h2, h3⟩ := Prod.mk.inj h2
 obtain ⟨h3, h4⟩ := Prod.mk.inj h3
 obtain ⟨h4, h5⟩ := Prod.mk.inj h4
 obtain ⟨h5, h6⟩ := Prod.mk.inj h5
 exact wq h1 h2 h3 (ov_extract h4 h5 h6) k
theorem Vl (i : Nat) {T T' : TypeId} {b q : Nat} {cs : List Value} (hA : ∀ w, (isAgg T).run P w = .ok false w) (hq : (o.guard, o.dst, okDst d n, o.op, ev g x, ms[i]?, cs[q]?) = (none, some d, true, Op.load T x, some (pB b q), some (.blk b T' cs), some v)) (k : WL F P n ops l ((d, v) :: g) (St w0 H0 ms H) K) : WL F P n ops (o :: l) g (St w0 H0 ms H) K := by
 obtain ⟨h1, h2⟩ := Prod.mk.inj hq
 obtain ⟨h2, h3⟩ := Prod.mk.inj h2
 obtain ⟨h3, h4⟩ := Prod.mk.inj h3
 obtain ⟨h4, h5⟩ := Prod.mk.inj h4
 obtain ⟨h5, h6⟩ := Prod.mk.inj h5
 obtain ⟨h6, h7⟩ := Prod.mk.inj h6
 exact wq h1 h2 h3 (ov_load_box hA h4 h5 h6 h7) k
theorem Vi (hq : (o.dst, okDst d n) = (some d, true)) (hi : Idle n ops g o) (k : WL F P n ops l ((d, undef) :: g) S K) : WL F P n ops (o :: l) g S K := by
 obtain ⟨h1, h2⟩ := Prod.mk.inj hq
 exact WL.idle hi h1 h2 k
end
section
variable {P : Program} {n fuel : Nat} {g : Frm} {S S₀ : Pred} {K : Frm → Pred → Prop} {L : List Oper} {o : Oper} {listed : Array Bool} {d : Nat} {v : Value}
theorem TQ (i : Nat) (hh : (Region.noSelect L.toArray && (Region.free .any L.toArray listed i && (Region.ready .any L.toArray listed).contains i)) = true) (hq : (L[i]?, o.guard, o.dst, okDst d n) = (some o, none, some d, true)) (h : OV P n o g S₀ v)
 (k : AL P n L.toArray S₀ fuel (listed.setIfInBounds i true) ((d, v) :: g) S K) : AL P n L.toArray S₀ (fuel + 1) listed g S K := by
 obtain ⟨h1, h2⟩ := Prod.mk.inj hq
 obtain ⟨h2, h3⟩ := Prod.mk.inj h2
 obtain ⟨h3, h4⟩ := Prod.mk.inj h3
 exact tq h1 hh h2 h3 h4 h k
end
theorem Sub.all {g g' : Frm} (h : g.map (fun p => look g' p.1) = g.map (fun p => some p.2)) : Sub g g' := by
 induction g with
 | nil => exact Sub.nil _
 | cons p r ih =>
  obtain ⟨t, v⟩ := p
  simp only [List.map_cons] at h
  obtain ⟨h1, h2⟩ := List.cons.inj h
  exact Sub.cons h1 (ih h2)
theorem Sub.dropn' {g : Frm} : ∀ (k : Nat) (g' : Frm), g'.drop k = g → ((g'.take k).all fun p => (look g p.1).isNone) = true → Sub g g'
 | 0, g', h, _ => by
  rw [List.drop_zero] at h
  subst h
  exact Sub.refl _
 | k + 1, [], h, _ => by
  rw [List.drop_nil] at h
  subst h
  exact Sub.refl _
 | k + 1, (t, v) :: r, h, ha => by
  rw [List.drop_succ_cons] at h
  rw [List.take_succ_cons, List.all_cons, Bool.and_eq_true] at ha
  exact Sub.skip (by simpa using ha.1) (Sub.dropn' k r h ha.2)
theorem Sub.dropn (k : Nat) {g g' : Frm} (h : (g'.drop k, (g'.take k).all fun p => (look g p.1).isNone) = (g, true)) : Sub g g' :=
 Sub.dropn' k g' (Prod.mk.inj h).1 (Prod.mk.inj h).2
theorem tn {g : Frm} {S : Pred} {Q : Exit → Frm → Pred → Prop} {K : Frm → Pred → Prop} (h : K g S) : thenQ K Q .normal g S := h
theorem bn {g : Frm} {S : Pred} {Q : Exit → Frm → Pred → Prop} {id : Nat} (h : Q .normal g S) : inBlockQ id Q .normal g S := h
section
variable {P : Program} {n fuel : Nat} {g : Frm} {S S₀ : Pred} {K : Frm → Pred → Prop} {L : List Oper} {o : Oper} {listed : Array Bool} {d : Nat} {v : Value}
theorem TQ' (i : Nat) (hq : (L[i]?, o.guard, o.dst, okDst d n) = (some o, none, some d, true)) (h : OV P n o g S₀ v)
 (k : AL P n L.toArray S₀ fuel (listed.setIfInBounds i true) ((d, v) :: g) S K) (hh : (Region.noSelect L.toArray && (Region.free .any L.toArray listed i && (Region.ready .any L.toArray listed).contains i)) = true := by kernel_rfl) : AL P n L.toArray S₀ (fuel + 1) listed g S K := TQ i hh hq h k
end
theorem St.sl {w0 w : World} {H0 H : Heap} {ms ms' : List Ent} (h : St w0 H0 ms H w) (idx : List Nat) (hm : idx.filterMap (ms[·]?) = ms' := by rfl) (hn : idx.Nodup := by decide) : St w0 H0 ms' H w := h.select idx hn hm
abbrev rowE {α : Type} (T : TypeId) (E : Enc α) (l : List α) (ao : Option Addr) (cap : Nat) (xs : List Value) : Ent := .row T E.size l.length (.slice ao l.length cap) xs
section
variable {F : Fence} [Free F] {P : Program} {n : Nat} {g : Frm} {S : Pred} {K : Frm → Pred → Prop} {ops : Array Oper} {l : List Oper} {o : Oper} {d : Nat} {v : Value} {J : Frm → Prop}
theorem ws (hq : (o.guard, o.dst, okDst d n) = (none, some d, true)) (h : OS P n o g S fun v S' => WL F P n ops l ((d, v) :: g) S' K) : WL F P n ops (o :: l) g S K := by
 obtain ⟨h1, h2⟩ := Prod.mk.inj hq
 obtain ⟨h2, h3⟩ := Prod.mk.inj h2
 exact WL.step (Runs.free h1) h2 h3 h
theorem ws0 (hq : (o.guard, o.dst) = (none, none)) (h : OS P n o g S fun _ S' => WL F P n ops l g S' K) : WL F P n ops (o :: l) g S K := by
 obtain ⟨h1, h2⟩ := Prod.mk.inj hq
 exact WL.step0 (Runs.free h1) h2 h
theorem wo (hq : (o.guard, o.dst, okDst d n) = (none, some d, true)) (h : OQ P n o g S v) (k : WL F P n ops l ((d, v) :: g) S K) : WL F P n ops (o :: l) g S K := by
 obtain ⟨h1, h2⟩ := Prod.mk.inj hq
 obtain ⟨h2, h3⟩ := Prod.mk.inj h2
 exact WL.quiet (Runs.free h1) h2 h3 h k
theorem qf (hq : (o.guard, o.dst, okDst d n) = (none, some d, true)) (h : OV P n o g S v) (k : QL P n ops S l ((d, v) :: g) J) : QL P n ops S (o :: l) g J := by
 obtain ⟨h1, h2⟩ := Prod.mk.inj hq
 obtain ⟨h2, h3⟩ := Prod.mk.inj h2
 exact QL.quiet (Runs.free h1) h2 h3 (OV.quiet h) k
theorem qy {L : List Oper} {j t : Nat} {b c : Bool} (hc : c = b) (hq : (o.guard, (L[j]?).bind (·.dst), ev g (.tmp t), o.dst, okDst d n) = (some (j, b), some t, some (.bool c), some d, true)) (h : OV P n o g S v) (k : QL P n L.toArray S l ((d, v) :: g) J) : QL P n L.toArray S (o :: l) g J := by
 obtain ⟨h1, h2⟩ := Prod.mk.inj hq
 obtain ⟨h2, h3⟩ := Prod.mk.inj h2
 obtain ⟨h3, h4⟩ := Prod.mk.inj h3
 obtain ⟨h4, h5⟩ := Prod.mk.inj h4
 exact QL.quiet (Runs.yes h1 h2 h3 hc) h4 h5 (OV.quiet h) k
theorem wy {L : List Oper} {j t : Nat} {b c : Bool} (hc : c = b) (hq : (o.guard, (L[j]?).bind (·.dst), ev g (.tmp t), o.dst, okDst d n) = (some (j, b), some t, some (.bool c), some d, true)) (h : OV P n o g S v) (k : WL F P n L.toArray l ((d, v) :: g) S K) : WL F P n L.toArray (o :: l) g S K := by
 obtain ⟨h1, h2⟩ := Prod.mk.inj hq
 obtain ⟨h2, h3⟩ := Prod.mk.inj h2
 obtain ⟨h3, h4⟩ := Prod.mk.inj h3
 obtain ⟨h4, h5⟩ := Prod.mk.inj h4
 exact WL.quiet (Runs.yes h1 h2 h3 hc) h4 h5 (OV.quiet h) k
end
end Go.Proofs.YtbckcjjffbgidaaGreatDoor.W
