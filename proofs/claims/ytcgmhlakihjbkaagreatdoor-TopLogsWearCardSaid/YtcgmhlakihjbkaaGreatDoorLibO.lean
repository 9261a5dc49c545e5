/- Our own calculus, fourteenth part: make; arrays in boxes cut into slices. A general text: it names no program. -/
import Derived.Test.YtcgmhlakihjbkaaGreatDoorLibM
import Derived.Laws.MakeOwn
set_option linter.unusedVariables false
set_option linter.unusedSimpArgs false
namespace Go.Proofs.YtcgmhlakihjbkaaGreatDoor.W
open Go Go.RowKit
section
variable {P : Program} {n : Nat} {o : Oper} {g : Frm} {w0 : World} {ms : List Ent} {H0 H : Heap}
theorem madeCells_at (z : Array Value) (m s : Nat) (hz : z.size = s) (hs : 0 < s) (i : Nat) (hi : i < m) : (((madeCells z (m * s)).toList.drop (i * s)).take s) = z.toList := by
  have hle : (i + 1) * s ≤ m * s := Nat.mul_le_mul_right s hi
  rw [Nat.add_mul] at hle
  apply List.ext_getElem?
  intro j
  rw [List.getElem?_take]
  by_cases hj : j < s
  · rw [if_pos hj, List.getElem?_drop]
    have h1 : i * s + j < m * s := by omega
    have h2 : (i * s + j) % s = j := by rw [Nat.add_comm, Nat.add_mul_mod_self_right]; exact Nat.mod_eq_of_lt hj
    unfold madeCells
    rw [Array.toList_map, List.getElem?_map, Array.toList_range, List.getElem?_range h1]
    simp only [Option.map_some]
    rw [hz, h2]
    have hj' : j < z.size := by omega
    simp [getElem!_pos z j hj']
  · rw [if_neg hj]
    symm
    rw [List.getElem?_eq_none]
    simp
    omega
theorem os_makeSlice {α : Type} {En : Enc α} {y0 : α} {T E : TypeId} {x y : Operand} {kl kc : IntKind} {m : Int} {bytes : Nat} {z : Value} {K : Value → Pred → Prop} (hT : P.underlying T = some (.slice E)) (hI : (P.info? E).map (fun i => (i.zero, i.size, i.bytes)) = some (some z, En.size, bytes))
    (hz : En.rep H y0 z.cells.toList) (hsz : 0 < En.size) (h : o.op = .makeSlice T x y) (hx : ev g x = some (.int kl m)) (hy : ev g y = some (.int kc m)) (hg : (decide (0 ≤ m) && decide (m * bytes ≤ 140737488355328) && decide (m ≤ 4611686018427387904)) = true)
    (k : ∀ b xs, RL H En (List.replicate (Int.toNat m) y0) xs → K (.slice (some ⟨b, 0, none⟩) (List.replicate (Int.toNat m) y0).length (Int.toNat m)) (St w0 H0 (.row E En.size (List.replicate (Int.toNat m) y0).length (.slice (some ⟨b, 0, none⟩) (List.replicate (Int.toNat m) y0).length (Int.toNat m)) xs :: ms) H)) : OS P n o g (St w0 H0 ms H) K := fun a w f s next Q hn => by
  rw [Bool.and_eq_true, Bool.and_eq_true, decide_eq_true_eq, decide_eq_true_eq, decide_eq_true_eq] at hg
  obtain ⟨⟨g0, g1⟩, g2⟩ := hg
  obtain ⟨i0, hi, he⟩ := Option.map_eq_some_iff.1 hI
  have e1 : i0.zero = some z := congrArg (fun p => p.1) he
  have e2 : i0.size = En.size := congrArg (fun p => p.2.1) he
  have e3 : i0.bytes = bytes := congrArg (fun p => p.2.2) he
  have hr := run_make (P := P) w T E i0 z hT hi e1 kl kc m m g0 (Int.le_refl _) (by rw [e3, Int.mul_comm]; omega) (by omega)
  rw [e2] at hr
  have hrl : RL H En (List.replicate (Int.toNat m) y0) (madeCells z.cells (m.toNat * En.size)).toList := by
    have hzs : z.cells.size = En.size := by have := En.len hz; simpa using this
    refine ⟨by simp [size_madeCells], fun i x hx => ?_⟩
    have hlt : i < m.toNat := by
      have := (List.getElem?_eq_some_iff.1 hx).1
      simpa using this
    have hxe : x = y0 := by
      rw [List.getElem?_replicate, if_pos hlt] at hx
      exact (Option.some.inj hx).symm
    subst hxe
    rw [madeCells_at _ _ _ hzs hsz i hlt]
    exact hz
  have hk := k w.heap.size _ hrl
  have el : (List.replicate (Int.toNat m) y0).length = m.toNat := List.length_replicate
  rw [el] at hk
  unfold Oper.wp
  have hr' : (execOp a.eval o).run P w = .ok (.value (.slice (some ⟨w.heap.size, 0, none⟩) m.toNat m.toNat)) (w.alloc (.cells (madeCells z.cells (m.toNat * En.size)) E)) := by
    simp [execOp, h, f.eval hx, f.eval hy, hr]
  rw [hr']
  refine hn _ _ _ hk (s.push ((Below.refl _ _).alloc (Nat.le_refl _) _) ?_ (fun b hb => by simp [Ent.at, Value.ownBlock] at hb; omega))
  exact ⟨by simp [size_madeCells], .inr ⟨w.heap.size, m.toNat, _, rfl, s.below.size, heap_alloc_new w _, Nat.le_refl _, by unfold maxLen; omega, size_madeCells _ _, by rw [List.take_of_length_le]; simp [size_madeCells]⟩⟩
theorem OS.weaken {S S₁ : Pred} {K : Value → Pred → Prop} (k : ∀ w, S w → S₁ w) (h : OS P n o g S₁ K) : OS P n o g S K := fun a w f s => h a w f (k w s)
/-- a row that is held for good, ahead of an operation -/
theorem OS.held {α : Type} {E : Enc α} {l : List α} {T : TypeId} {sz cap : Nat} {ao : Option Addr} {xs : List Value} {K : Value → Pred → Prop} (hR : RL H E l xs) (k : ∀ H', l.length ≤ cap → Le H H' → SL H' E ao l → OS P n o g (St w0 H0 ms H') K) :
    OS P n o g (St w0 H0 (.row T sz l.length (.slice ao l.length cap) xs :: ms) H) K := fun a w f s => by
  obtain ⟨H', h1, h2, h3, h4⟩ := s.row_held hR
  exact k H' h1 h2 h3 a w f h4
/-- an array in a box that is held, cut to a slice -/
theorem sl_arr_h {α : Type} {E : Enc α} {b : Nat} {l r : List α} {j : Int} (h : SL H E (some ⟨b, 0, none⟩) l) (hr : part? l 0 j = some r) :
    ∃ ao' c', (∀ {P : Program} {n : Nat} {o : Oper} {g : Frm} {S : Pred} {T Et : TypeId} {x z : Operand} {k' : IntKind}, P.underlying T = some (.array l.length Et) → (∀ w, (sizeOf Et).run P w = .ok E.size w) → o.op = .slice T x none (some z) none → ev g x = some (pB b 0) → ev g z = some (.int k' j) → OV P n o g S (.slice ao' r.length c')) ∧ SL H E ao' r ∧ r.length ≤ c' := by
  obtain ⟨h0, h1, h2, rfl⟩ := part?_some hr
  refine ⟨_, l.length - (0 : Int).toNat, fun {P n o g S T Et x z k'} hT hS ho hx hz a w f _ => ?_, sl_cut h (Nat.le_refl _) (show (0 : Int).toNat ≤ j.toNat by omega) (show j.toNat ≤ l.length by omega), by simp; omega⟩
  have hb : (Instr.sliceBounds false l.length l.length none (some (.int k' j)) none).run P w = .ok (0, j.toNat, l.length) w := by
    simp [Instr.sliceBounds, run_sliceBound, h1, h2]
  have hm : min j.toNat l.length = j.toNat := by omega
  simp [execOp, ho, f.eval hx, f.eval hz, pB, Instr.sliceAt, run_underlying hT, Instr.slice, hb, hS, Instr.sureAddr, Addr.add, hm]
end
/-- a box of bools that is held, as a list -/
theorem sl_boxB {H : Heap} {b : Nat} {l : List Bool} (h : ∀ j u, (l.map Value.bool)[j]? = some u → cellH H ⟨b, j, none⟩ = some u) : SL H encBool (some ⟨b, 0, none⟩) l := fun i x hx => by
  refine ⟨_, rfl, fun j u hu => ?_⟩
  cases j with
  | succ j => simp at hu
  | zero =>
    simp at hu
    subst hu
    refine ⟨_, rfl, ?_⟩
    rw [addr_add]
    have := h i (.bool x) (by rw [List.getElem?_map, hx]; rfl)
    simpa [encBool, Enc.flat] using this
section
variable {P : Program} {n : Nat} {o : Oper} {g : Frm} {w0 : World} {ms : List Ent} {H0 H : Heap}
theorem OS.box_held {K : Value → Pred → Prop} {b : Nat} {Tb : TypeId} {cs : List Value} (k : ∀ H', Le H H' → (∀ j u, cs[j]? = some u → cellH H' ⟨b, j, none⟩ = some u) → OS P n o g (St w0 H0 ms H') K) :
    OS P n o g (St w0 H0 (.blk b Tb cs :: ms) H) K := fun a w f s => by
  obtain ⟨H', h1, h2, h3⟩ := s.box_held
  exact k H' h1 h2 a w f h3
theorem WP.box_held {F : Fence} {c : Code} {Q : Exit → Frm → Pred → Prop} {b : Nat} {Tb : TypeId} {cs : List Value} (k : ∀ H', Le H H' → (∀ j u, cs[j]? = some u → cellH H' ⟨b, j, none⟩ = some u) → WP F P n c g (St w0 H0 ms H') Q) :
    WP F P n c g (St w0 H0 (.blk b Tb cs :: ms) H) Q := fun a w f s => by
  obtain ⟨H', h1, h2, h3⟩ := s.box_held
  exact k H' h1 h2 a w f h3
end
/-! ### arrays of bools held against each other -/
theorem all_range_eqB : ∀ (xs ys : List Bool), xs.length = ys.length → ((List.range xs.length).all fun i => xs.getD i false == ys.getD i false) = (xs == ys)
  | [], [], _ => rfl
  | x :: xs, y :: ys, h => by
    have ih := all_range_eqB xs ys (by simpa using h)
    rw [List.length_cons, List.range_succ_eq_map, List.all_cons, List.all_map]
    simp only [List.getD_cons_zero, Function.comp_def, List.getD_cons_succ, ih]
    simp [List.cons_beq_cons]
  | [], _ :: _, h => by simp at h
  | _ :: _, [], h => by simp at h
theorem run_equalIn_bools {P : Program} (w : World) (d : Nat) (t e : TypeId) (n : Nat) (ht : P.underlying t = some (.array n e)) (he : P.underlying e = some .bool) (hsz : ∀ w, (sizeOf e).run P w = .ok 1 w)
    (xs ys : List Bool) (hx : xs.length = n) (hy : ys.length = n) :
    (Op.equalIn (d + 2) t (.agg (xs.map Value.bool).toArray) (.agg (ys.map Value.bool).toArray)).run P w = .ok (xs == ys) w := by
  rw [← all_range_eqB xs ys (hx.trans hy.symm), hx, List.range_eq_range', Op.equalIn]
  simp only [Sem.run_bind, run_underlying ht, Result.andThen_ok, hsz, Std.Legacy.Range.forIn_eq_forIn_range', Std.Legacy.Range.size, Nat.sub_zero, Nat.add_sub_cancel, Nat.div_one]
  have hl : ∀ i ∈ List.range' 0 n 1, i < n := fun i hi => by simpa using (List.mem_range'_1.1 hi).2
  generalize List.range' 0 n 1 = l at hl ⊢
  induction l with
  | nil => simp
  | cons i l ih =>
    have hi : i < n := hl i (by simp)
    have px : (part e (xs.map Value.bool).toArray (i * 1)).run P w = .ok (Value.bool (xs.getD i false)) w := by
      simp [part, isAgg, run_underlying he, List.getD, List.getElem?_eq_getElem (show i < xs.length by omega)]
    have py : (part e (ys.map Value.bool).toArray (i * 1)).run P w = .ok (Value.bool (ys.getD i false)) w := by
      simp [part, isAgg, run_underlying he, List.getD, List.getElem?_eq_getElem (show i < ys.length by omega)]
    have pe : (Op.equalIn (d + 1) e (Value.bool (xs.getD i false)) (Value.bool (ys.getD i false))).run P w = .ok (xs.getD i false == ys.getD i false) w := run_equalIn_bool' w d e _ _ he
    simp only [List.forIn_cons, Sem.run_bind, px, py, pe, Result.andThen_ok, List.all_cons]
    cases hb : (xs.getD i false == ys.getD i false)
    · simp
    · simp only [Bool.not_true, Bool.false_eq_true, if_false, Sem.run_pure, Result.andThen_ok, Bool.true_and]
      exact ih fun j hj => hl j (by simp [hj])
theorem ov_neq_bools {P : Program} {n : Nat} {o : Oper} {g : Frm} {S : Pred} {x y : Operand} {T T' e : TypeId} {m : Nat} {xs ys : List Bool} (hG : P.eqGuardType P.depth T = false) (ht : P.underlying T = some (.array m e)) (he : P.underlying e = some .bool) (hsz : ∀ w, (sizeOf e).run P w = .ok 1 w)
    (hl : xs.length = m) (hm : ys.length = m) (h : o.op = .binOp .neq T x y T') (hx : ev g x = some (.agg (xs.map Value.bool).toArray)) (hy : ev g y = some (.agg (ys.map Value.bool).toArray)) : OV P n o g S (.bool (!(xs == ys))) := fun a w f _ => by
  have h1 := run_equalIn_bools (P := P) w 9998 T e m ht he hsz xs ys hl hm
  have h2 := run_neq_struct (P := P) w T (xs.map Value.bool).toArray (ys.map Value.bool).toArray
  rw [h1] at h2
  have h3 := run_eqGuard_agg (P := P) w .neq T x y (xs.map Value.bool).toArray (ys.map Value.bool).toArray hG
  simp only [execOp, h, f.eval hx, f.eval hy, Sem.run_bind, h3, Result.andThen_ok, h2, Sem.run_pure]
end Go.Proofs.YtcgmhlakihjbkaaGreatDoor.W
