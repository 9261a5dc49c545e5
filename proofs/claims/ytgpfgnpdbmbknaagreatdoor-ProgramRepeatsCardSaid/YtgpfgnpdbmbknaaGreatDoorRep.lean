import Derived.Test.YtgpfgnpdbmbknaaGreatDoorExt
import Derived.Test.YtgpfgnpdbmbknaaGreatDoorLibR
import Derived.Shelf.Bits.Mul64
set_option linter.unusedVariables false
set_option linter.unusedSimpArgs false
set_option maxRecDepth 100000
set_option maxHeartbeats 4000000
namespace Go.Proofs.YtgpfgnpdbmbknaaGreatDoor.W
open Go Go.RowKit
def mulRen : Go.Shelf.Ren := ⟨fun | 212 => 80 | 263 => 115 | 264 => 116 | n => n, fun | 46 => 127 | 51 => 167 | 53 => 170 | 146 => 168 | 148 => 171 | n => n, fun | n => n⟩
theorem mulLays : Go.Proofs.Lays.n212 Tryz.prog mulRen := {
  mixed := by kernel_rfl
  f212 := Tryz.func80.trans (congrArg some (by kernel_rfl))
  f263 := Tryz.func115.trans (congrArg some (by kernel_rfl))
  f264 := Tryz.func116.trans (congrArg some (by kernel_rfl))
  t46 := Tryz.underlying127
  a46 := Tryz.isAgg127
  z46 := Tryz.sizeOf127
  v46 := Tryz.zeroValue127
  t51 := Tryz.underlying167
  a51 := Tryz.isAgg167
  z51 := Tryz.sizeOf167
  v51 := Tryz.zeroValue167
  t53 := Tryz.underlying170
  a53 := Tryz.isAgg170
  z53 := Tryz.sizeOf170
  v53 := Tryz.zeroValue170
  t146 := Tryz.underlying168
  a146 := Tryz.isAgg168
  z146 := Tryz.sizeOf168
  v146 := Tryz.zeroValue168
  t148 := Tryz.underlying171
  a148 := Tryz.isAgg171
  z148 := Tryz.sizeOf171
  v148 := Tryz.zeroValue171 }
theorem mul_con (a b : Nat) (w : World) (H : Heap) (h : a * b ≤ 1000000) (ha : a ≤ 1000000) (hb : b ≤ 1000000) : Con Tryz.prog 80 [.int .u64 (a : Int), .int .u64 (b : Int)] w H (fun v _ => v = .tuple #[.int .u64 0, .int .u64 ((a * b : Nat) : Int)]) := by
  refine Calls.mono (Any.bits_Mul mulLays a b (by omega) (by omega) w) fun e w' hw => ?_
  obtain ⟨he, rfl⟩ := hw
  refine ⟨_, he, Below.refl _ _, ?_⟩
  rw [Nat.div_eq_of_lt (by omega), Nat.mod_eq_of_lt (by omega)]
  rfl
theorem rep_len {α : Type} (l : List α) : ∀ n : Nat, (List.replicate n l).flatten.length = n * l.length
  | 0 => by simp
  | n + 1 => by rw [List.replicate_succ, List.flatten_cons, List.length_append, rep_len l n, Nat.add_mul, Nat.one_mul, Nat.add_comm]
theorem per_take {α : Type} (l : List α) (n q : Nat) (hq : q ≤ n) (k : Nat) (hk : k ≤ (n - q) * l.length) : ((List.replicate n l).flatten.drop (q * l.length)).take k = (List.replicate n l).flatten.take k := by
  have e1 : List.replicate n l = List.replicate q l ++ List.replicate (n - q) l := by rw [List.replicate_append_replicate]; congr 1; omega
  have e2 : List.replicate n l = List.replicate (n - q) l ++ List.replicate q l := by rw [List.replicate_append_replicate]; congr 1; omega
  have h1 : (List.replicate n l).flatten.drop (q * l.length) = (List.replicate (n - q) l).flatten := by
    rw [e1, List.flatten_append, ← rep_len l q, List.drop_left]
  rw [h1, e2, List.flatten_append, List.take_append_of_le_length (by rw [rep_len]; exact hk)]
theorem repSt_con (l : List Step) (k : Int) (ao : Option Addr) (cap : Nat) (w : World) (H : Heap) (hH : Le H (hp w)) (h : SL H encStep ao l) (hc : l.length ≤ cap) (hG : Glob H) (r : List Step) (hm : repSt l k = some r) : Con Tryz.prog 41 [.slice ao l.length cap, .int .i64 k] w H (fun v H' => ∃ (ao' : Option Addr) (cap' : Nat), v = .slice ao' r.length cap' ∧ SL H' encStep ao' r ∧ r.length ≤ cap') := by
  unfold repSt at hm
  split at hm
  case isFalse => cases hm
  rename_i hq
  obtain ⟨hk1, hk2, hl0, hl1⟩ := hq
  cases hm
  obtain ⟨N, rfl⟩ : ∃ N : Nat, k = (N : Int) := ⟨k.toNat, by omega⟩
  rw [Int.toNat_natCast]
  have hlen := rep_len l N
  have hper := per_take l N
  have hR1 : (List.replicate N l).flatten.take l.length = l := by
    obtain ⟨N', rfl⟩ : ∃ q, N = q + 1 := ⟨N - 1, by omega⟩
    rw [List.replicate_succ, List.flatten_cons, List.take_left]
  generalize (List.replicate N l).flatten = R at hlen hper hR1 ⊢
  obtain ⟨p, hp0⟩ : ∃ p, p = l.length := ⟨_, rfl⟩
  rw [← hp0] at hlen hper hR1 hl0 hl1 hc ⊢
  obtain ⟨M, hM⟩ : ∃ M, M = p * N := ⟨_, rfl⟩
  have hMs : M ≤ 1000000 := by rw [hM]; exact Nat.le_trans (Nat.mul_le_mul hl1 (show N ≤ 1000 by omega)) (by decide)
  have hpM : p ≤ M := by rw [hM]; exact Nat.le_mul_of_pos_right _ (by omega)
  rw [Nat.mul_comm, ← hM] at hlen
  obtain ⟨ys, hys, hrow⟩ := SL.cells l h
  have hyl : ys.length = p * 2 := by rw [hys.1, hp0]; rfl
  have hone : ys.all (·.oneCell') = true := hys.ones (by decide) one_encStep
  obtain ⟨a, rfl⟩ : ∃ a, ao = some a := by
    obtain ⟨a, e, _⟩ := hrow 0 ys[0] (List.getElem?_eq_getElem (by omega))
    exact ⟨a, e⟩
  have hsz : encStep.size = 2 := rfl
  have hmx : M ≤ maxLen := Nat.le_trans hMs (by decide)
  refine con_of hH Tryz.func41 rfl 48 Tryz.ntmps41 rfl ?_
  refine WP.seq (WP.region (Va rfl (WL.nil (tn ?_))))
  refine WP.seq (WP.seq (WP.region (Vm rfl ?_)))
  refine V rfl (OV.as (ov_lss rfl rfl rfl) (congrArg Value.bool (decide_eq_false (by omega)))) ?_
  refine WL.nil (tn (WP.cond_false rfl (WP.skip (tn ?_))))
  have w1 : IntKind.u64.wrap ((p : Nat) : Int) = ((p : Nat) : Int) := by rw [IntKind.wrap_u64]; omega
  have w2 : IntKind.u64.wrap ((N : Nat) : Int) = ((N : Nat) : Int) := by rw [IntKind.wrap_u64]; omega
  have w3 : IntKind.i64.wrap ((M : Nat) : Int) = ((M : Nat) : Int) := by rw [IntKind.wrap_i64]; omega
  refine WP.seq (WP.region (Vm rfl ?_))
  refine V rfl (ov_len_slice Tryz.underlying42 rfl rfl) ?_
  refine V rfl (OV.as (ov_convert_int Tryz.underlying3 Tryz.underlying127 rfl rfl) (congrArg (Value.int .u64) w1)) ?_
  refine Vm rfl ?_
  refine V rfl (OV.as (ov_convert_int Tryz.underlying3 Tryz.underlying127 rfl rfl) (congrArg (Value.int .u64) w2)) ?_
  refine wo rfl (oq_con (r := .tuple #[.int .u64 0, .int .u64 ((M : Nat) : Int)]) Tryz.call80 rfl rfl (fun w' s => ⟨_, by rw [hM]; exact mul_con p N w' H (by omega) (by omega) (by omega)⟩)) ?_
  refine Vm rfl (Ve rfl (Ve rfl (Va rfl (Va rfl (WL.nil (tn ?_))))))
  refine WP.seq (WP.seq (WP.region (Vm rfl ?_)))
  refine V rfl (OV.as (ov_gtr rfl rfl rfl) (congrArg Value.bool (show decide ((0 : Int) > 0) = false by decide))) ?_
  refine Vm rfl ?_
  refine wy (c := false) rfl rfl (ov_move rfl rfl) ?_
  refine wy (c := false) rfl rfl (OV.as (ov_gtr rfl rfl rfl) (congrArg Value.bool (decide_eq_false (by omega)))) ?_
  refine V rfl (ov_pick_false rfl rfl rfl) (WL.nil (tn (WP.cond_false rfl (WP.skip (tn ?_)))))
  refine WP.seq (WP.region (Vm rfl ?_))
  refine V rfl (OV.as (ov_convert_int Tryz.underlying127 Tryz.underlying3 rfl rfl) (congrArg (Value.int .i64) w3)) ?_
  refine ws rfl (os_makeSlice_n (N := M) (sz := 2) (bytes := 32) (z := (.agg #[.slice none 0 0, .int .i64 0])) Tryz.underlying42 (by kernel_rfl : (Tryz.prog.info? 25).map (fun i => (i.zero, i.size, i.bytes)) = some (some (.agg #[.slice none 0 0, .int .i64 0]), 2, 32)) rfl rfl rfl rfl rfl (by omega) (by omega) (fun b => ?_))
  refine Va rfl (WL.nil (tn ?_))
  have hcl0 : (madeCells (Value.agg #[.slice none 0 0, .int .i64 0]).cells (M * 2)).toList.length = M * 2 := by simp [madeCells]
  generalize (madeCells (Value.agg #[.slice none 0 0, .int .i64 0]).cells (M * 2)).toList = cur0 at hcl0 ⊢
  have cellY : ∀ (ms : List Ent) w', St w H ms H w' → ∀ j v, ys[j]? = some v → w'.cell? (a.add j) = some v := fun ms w' s j v hj => by
    obtain ⟨a', e, hc⟩ := hrow.mono s.hold j v hj
    cases e
    rw [Nat.zero_add] at hc
    exact hc
  refine WP.seq (WP.region (Vm rfl (Vm rfl ?_)))
  refine ws rfl (os_copy_blk (i := 0) (T := 25) (cs := ys) (sz := 2) Tryz.underlying42 (by kernel_rfl) rfl rfl rfl rfl (by rw [hyl]; congr 1; show p = min _ _; omega) (fun w' s => cellY _ w' s) (by omega) hone ?_)
  have hmin : goInt (Nat.min p M) = .int .i64 ((p : Nat) : Int) := by
    have : Nat.min p M = p := by show min p M = p; omega
    rw [this]
    rfl
  rw [hmin]
  refine Va rfl (WL.nil (tn ?_))
  refine WP.seq (WP.block ?_)
  refine WP.loop (fun f g' S' => ∃ (m : Nat) (cur : List Value), Sub [(7, .slice (some ⟨b, 0, none⟩) M M), (8, .int .i64 (m : Int)), (1000000007, (.bool false))] g' ∧ (∀ w', S' w' → St w H [.blk b 25 cur] H w') ∧ cur.length = M * 2 ∧ m ≤ M ∧ p ≤ m ∧ (m = M ∨ ∃ q, m = q * p ∧ q ≤ N) ∧ RL H encStep (R.take m) (cur.take (m * 2)) ∧ M - m + 1 ≤ f) (M + 1) ⟨p, spl cur0 0 ys, (Sub.all rfl), fun w' s => s, by rw [spl_length (by omega)]; exact hcl0, hpM, Nat.le_refl _, .inr ⟨1, by omega, by omega⟩, ?_, by omega⟩ ?_ ?_
  · have := spl_front (cur := cur0) (cs := ys) (a := 0) (by omega)
    rw [Nat.zero_add, hyl, List.take_zero, List.nil_append] at this
    rw [this, hR1]
    exact hys
  · rintro g' S' ⟨m, cur, _, _, _, hmM, _, _, _, hf⟩
    omega
  rintro f g' S' ⟨m, cur, hsub, hS, hcl, hmM, hpm, hq, hRL, hf⟩
  refine WP.sub hsub (WP.weaken hS ?_)
  refine WP.seq (WP.seq (WP.region (Vm rfl (Vm rfl (V rfl (ov_len_slice Tryz.underlying42 rfl rfl) ?_)))))
  by_cases hlt : m < M
  · refine V rfl (OV.as (ov_lss rfl rfl rfl) (congrArg Value.bool (decide_eq_true (by omega)))) (WL.nil (tn (WP.cond_true rfl (WP.skip (tn ?_)))))
    obtain ⟨k, hkk⟩ : ∃ k, k = min m (M - m) := ⟨_, rfl⟩
    have hk : Nat.min m (M - m) = k := hkk.symm
    have hcs : (cur.take (k * 2)).length = k * 2 := by rw [List.length_take, hcl]; omega
    have htk : (cur.take (m * 2)).take (k * 2) = cur.take (k * 2) := by rw [List.take_take, Nat.min_eq_left (by omega)]
    have hRk : RL H encStep (R.take k) (cur.take (k * 2)) := by
      have := hRL.take k
      rwa [hsz, htk, List.take_take, Nat.min_eq_left (by omega)] at this
    have w4 : IntKind.i64.wrap (((m : Nat) : Int) + ((k : Nat) : Int)) = ((m + k : Nat) : Int) := by rw [IntKind.wrap_i64]; omega
    refine WP.block ?_
    refine WP.region_any (S₀ := fun _ => True) 10 rfl (by kernel_rfl) (fun _ _ => trivial) (fun _ s => s.drew) ?_
    refine AL.take (i := 0) rfl (by kernel_rfl) (by kernel_rfl) (by kernel_rfl) (Runs.free rfl) rfl rfl (ov_move rfl rfl) ?_
    refine AL.take (i := 1) rfl (by kernel_rfl) (by kernel_rfl) (by kernel_rfl) (Runs.free rfl) rfl rfl (ov_move rfl rfl) ?_
    refine AL.take (i := 2) rfl (by kernel_rfl) (by kernel_rfl) (by kernel_rfl) (Runs.free rfl) rfl rfl (ov_move rfl rfl) ?_
    refine AL.take (i := 3) rfl (by kernel_rfl) (by kernel_rfl) (by kernel_rfl) (Runs.free rfl) rfl rfl (OV.as (v' := .slice (some ⟨b, m * 2, none⟩) (M - m) (M - m)) (ov_slice_from Tryz.underlying42 Tryz.sizeOf25 rfl rfl rfl (by omega) (by omega) (Nat.le_refl _)) (by rw [Int.toNat_natCast, offA_lt hlt, Nat.zero_add])) ?_
    refine AL.take (i := 4) rfl (by kernel_rfl) (by kernel_rfl) (by kernel_rfl) (Runs.free rfl) rfl rfl (ov_move rfl rfl) ?_
    refine AL.take (i := 5) rfl (by kernel_rfl) (by kernel_rfl) (by kernel_rfl) (Runs.free rfl) rfl rfl (ov_move rfl rfl) ?_
    refine AL.take (i := 6) rfl (by kernel_rfl) (by kernel_rfl) (by kernel_rfl) (Runs.free rfl) rfl rfl (OV.as (v' := .slice (some ⟨b, 0, none⟩) m M) (ov_slice_to Tryz.underlying42 Tryz.sizeOf25 rfl rfl rfl (by omega) (by omega)) (by rw [Int.toNat_natCast])) ?_
    refine AL.any (rs := [7]) (by kernel_rfl) (by decide) ?_
    refine ALs.cons (i := 7) rfl (Runs.free rfl) rfl rfl ?_ ALs.nil
    refine os_copy_blk (i := 0) (T := 25) (cur := cur) (cs := cur.take (k * 2)) (sz := 2) Tryz.underlying42 (by kernel_rfl) rfl rfl rfl rfl (by rw [hcs, hk]) (fun w' s j v hj => ?_) (by rw [hcs, hcl]; omega) ?_ ?_
    · have hc : w'.heap[b]? = some (.cells cur.toArray 25 (0, 0)) := s.sat _ (List.mem_cons_self ..)
      rw [Addr.add_lit]
      simp only [World.cell?, hc]
      rw [List.getElem?_take] at hj
      split at hj
      · simpa using hj
      · cases hj
    · exact hRk.ones (by decide) one_encStep
    rw [hk]
    refine ⟨fun _ _ => trivial, ?_⟩
    refine AL.take (i := 8) rfl (by kernel_rfl) (by kernel_rfl) (by kernel_rfl) (Runs.free rfl) rfl rfl (OV.as (ov_add (j := ((k : Nat) : Int)) rfl rfl rfl) (congrArg (Value.int .i64) w4)) ?_
    refine AL.take (i := 9) rfl (by kernel_rfl) (by kernel_rfl) (by kernel_rfl) (Runs.free rfl) rfl rfl (ov_assign rfl rfl) ?_
    refine AL.done (by kernel_rfl) ?_
    obtain ⟨q, hmq, hqN⟩ : ∃ q, m = q * p ∧ q ≤ N := hq.resolve_left (by omega)
    have hNq : (N - q) * p = M - m := by rw [Nat.sub_mul, hM, hmq, Nat.mul_comm N p]
    refine bn (tn ⟨m + k, spl cur (m * 2) (cur.take (k * 2)), (Sub.all rfl), fun w' s => s, ?_, by omega, by omega, ?_, ?_, by omega⟩)
    · rw [spl_length (by rw [hcs, hcl]; omega)]
      exact hcl
    · by_cases h2 : m ≤ M - m
      · right
        refine ⟨2 * q, by rw [Nat.mul_assoc, ← hmq]; omega, ?_⟩
        have h3 : (2 * q) * p ≤ N * p := by rw [Nat.mul_assoc, ← hmq, Nat.mul_comm N p, ← hM]; omega
        exact Nat.le_of_mul_le_mul_right h3 (by omega)
      · left
        omega
    · have h3 := spl_front (cur := cur) (cs := cur.take (k * 2)) (a := m * 2) (by rw [hcs, hcl]; omega)
      rw [hcs, ← Nat.add_mul] at h3
      rw [h3, List.take_add]
      have h4 := hper q hqN k (by rw [hNq]; omega)
      rw [← hmq] at h4
      rw [h4]
      exact hRL.append hRk
  · refine V rfl (OV.as (ov_lss rfl rfl rfl) (congrArg Value.bool (decide_eq_false (by omega)))) (WL.nil (tn (WP.cond_false rfl ?_)))
    refine WP.exit (then_exit (then_exit (block_here (tn ?_))))
    obtain rfl : m = M := by omega
    refine WP.weaken (fun w' s => s.blk_rowN (sz := 2) (N := m) hcl hmx) ?_
    refine WP.seq (WP.region (Vm rfl (Va rfl (WL.nil (tn (WP.ret ?_))))))
    refine retQ_ret (v := .slice (some ⟨b, 0, none⟩) m m) Tryz.results41 (Res.tmp rfl Res.nil) rfl (fun w' s => ⟨s.below, ?_⟩)
    subst hlen
    rw [List.take_length, List.take_of_length_le (by omega)] at hRL
    obtain ⟨q1, q2⟩ := s.ret_row (i := 0) rfl hRL
    exact ⟨_, _, rfl, q1, q2⟩
section
variable {P : Program} {n : Nat} {o : Oper} {g : Frm} {w0 : World} {ms : List Ent} {H0 H : Heap}
theorem ov_slice_to_nil {S : Pred} {T E : TypeId} {x y : Operand} {kk : IntKind} {sz : Nat} (hT : P.underlying T = some (.slice E)) (hs : ∀ w, (sizeOf E).run P w = .ok sz w) (h : o.op = .slice T x none (some y) none) (hx : ev g x = some (.slice none 0 0)) (hy : ev g y = some (.int kk 0)) :
    OV P n o g S (.slice none 0 0) := fun a w f _ => by
  have hb := run_sliceBounds_h (P := P) (w := w) (k' := kk) (j := 0) (m := 0) (c := 0) (by omega) (by omega)
  simp [execOp, h, f.eval hx, f.eval hy, Instr.sliceAt, run_underlying hT, Instr.slice, hb, hs]
theorem os_append_zeros_nil {T Tn E : TypeId} {x y : Operand} {k sz bytes : Nat} {kn : IntKind} {q : Int} {z : Value} {K : Value → Pred → Prop} (hT : P.underlying T = some (.slice E)) (hTn : P.underlying Tn = some (.int kn)) (hI : (P.info? E).map (fun i => (i.zero, i.size, i.bytes)) = some (some z, sz, bytes)) (hz : z.cells.size = sz) (hsz : 0 < sz)
    (h : o.op = .call { callee := .builtin .append, args := #[x, y], argTypes := #[T, Tn] }) (hx : ev g x = some (.slice none 0 0)) (hy : ev g y = some (.int kn q)) (hq : q = (k : Int)) (hk : 0 < k) (hb : k * bytes ≤ 140737488355328) (hm : k ≤ maxLen)
    (kk : ∀ b2 c2 cur2, cur2.length = c2 * sz → k ≤ c2 → c2 ≤ maxLen → K (.slice (some ⟨b2, 0, none⟩) k c2) (St w0 H0 (.blk b2 E cur2 :: ms) H)) : OS P n o g (St w0 H0 ms H) K := fun a' w f s next Q hn => by
  obtain ⟨i0, hi0, hz0, hz1, hz2⟩ := info_parts hI
  have hold : (Builtin.firstCells i0.size 0 (.slice none 0 0)).run P w.drew = .ok ([] : List Value).toArray w.drew := by simp [Builtin.firstCells]
  have hmm : maxLen ≤ 9223372036854775807 := by decide
  subst hq
  have hr0 := Lib.run_append_grow_zeros w T Tn o.type E i0 z kn kn hT hTn hi0 hz0 none 0 0 [] hold k hk (by omega) (by omega) (by omega) (by rw [hz2]; omega) (by rw [hz2]; exact growslice_fits (by omega) (by rwa [Nat.zero_add]))
  have hG1 := grownCap_ge w (0 + k) 0 E
  have hG2 := grownCap_le_maxLen w (0 + k) 0 E (by omega)
  rw [Nat.zero_add] at hr0 hG1 hG2
  obtain ⟨G, hG⟩ : ∃ G, G = grownCap w k 0 E := ⟨_, rfl⟩
  rw [← hG] at hr0 hG1 hG2
  obtain ⟨cur2, hcur⟩ : ∃ cur2 : List Value, cur2.toArray = ([] : List Value).toArray ++ Builtin.zeroCells z.cells k ++ Builtin.zeroCells z.cells (G - k) := ⟨_, Array.toArray_toList⟩
  have hcl : cur2 = (Builtin.zeroCells z.cells k).toList ++ (Builtin.zeroCells z.cells (G - k)).toList := by
    have := congrArg Array.toList hcur
    simpa using this
  rw [← hcur] at hr0
  have hr : (execOp a'.eval o).run P w = .ok (.value (.slice (some ⟨w.heap.size, 0, none⟩) k G)) (w.drew.alloc (.cells cur2.toArray E)) := by
    simp [execOp, h, resolve, invoke, builtin, f.eval hx, f.eval hy, hr0]
  unfold Oper.wp
  rw [hr]
  refine hn _ _ _ (kk w.heap.size G cur2 ?_ hG1 hG2) (s.drew.alloc E cur2)
  rw [hcl]
  simp only [List.length_append, Array.length_toList, Builtin.zeroCells, Array.size_map, Array.size_range, hz]
  rw [← Nat.add_mul]
  congr 1
  omega
end
section
variable {n : Nat} {o : Oper} {g : Frm} {w0 : World} {ms : List Ent} {H0 H : Heap}
theorem os_growSt {x y : Operand} {m : Int} {ats : Array TypeId} {K : Value → Pred → Prop} (h : o.op = .call { callee := .value (.func 81), args := [x, y].toArray, argTypes := ats }) (hx : ev g x = some (.slice none 0 0)) (hy : ev g y = some (.int .i64 m)) (hg : guardO (decide (0 ≤ m) && decide (m ≤ 1000000)) = some ())
    (k : ∀ ao cap, K (.slice ao ([] : List Step).length cap) (St w0 H0 (.row 25 encStep.size ([] : List Step).length (.slice ao ([] : List Step).length cap) [] :: ms) H)) : OS Tryz.prog n o g (St w0 H0 ms H) K := by
  have hg' : 0 ≤ m ∧ m ≤ 1000000 := by
    unfold guardO at hg
    split at hg
    · rename_i q
      simpa using q
    · cases hg
  obtain ⟨h0, h1⟩ := hg'
  refine os_inline (cap := []) (vs := [.slice none 0 0, .int .i64 m]) Tryz.call81 h rfl (by simp only [evs, hx, hy]) Tryz.func81 rfl 27 Tryz.ntmps81 rfl (fun w' s => ?_)
  have w1 : IntKind.i64.wrap (m - 0) = m := by rw [IntKind.wrap_i64]; omega
  refine WP.seq (WP.region (Va rfl (WL.nil (tn ?_))))
  refine WP.seq (WP.seq (WP.region (Vm rfl ?_)))
  refine V rfl (OV.as (ov_lss rfl rfl rfl) (congrArg Value.bool (decide_eq_false (by omega)))) ?_
  refine WL.nil (tn (WP.cond_false rfl (WP.skip (tn ?_))))
  refine WP.seq (WP.seq (WP.region (Vm rfl (Vm rfl (V rfl (ov_cap Tryz.underlying42 rfl rfl) (Vm rfl (V rfl (ov_len_slice Tryz.underlying42 rfl rfl) ?_)))))))
  refine V rfl (OV.as (ov_sub rfl rfl rfl) (congrArg (Value.int .i64) (show IntKind.i64.wrap (((0 : Nat) : Int) - ((0 : Nat) : Int)) = 0 by decide))) ?_
  refine V rfl (OV.as (ov_sub rfl rfl rfl) (congrArg (Value.int .i64) w1)) (Va rfl (WL.nil (tn ?_)))
  refine WP.seq (WP.region (Vm rfl ?_))
  by_cases hm : m > 0
  · refine V rfl (OV.as (ov_gtr rfl rfl rfl) (congrArg Value.bool (decide_eq_true hm))) (WL.nil (tn (WP.cond_true rfl (WP.region (Vm rfl (Vm rfl ?_))))))
    obtain ⟨N, rfl⟩ : ∃ N : Nat, m = (N : Int) := ⟨m.toNat, by omega⟩
    refine V rfl (ov_cap Tryz.underlying42 rfl rfl) (V rfl (ov_slice_to_nil Tryz.underlying42 Tryz.sizeOf25 rfl rfl rfl) (Vm rfl ?_))
    refine ws rfl (os_append_zeros_nil (k := N) (sz := 2) (bytes := 32) (z := (.agg #[.slice none 0 0, .int .i64 0])) Tryz.underlying42 Tryz.underlying3 (by kernel_rfl) rfl (by decide) rfl rfl rfl rfl (by omega) (by omega) (Nat.le_trans (show N ≤ 1000000 by omega) (by decide)) (fun b2 c2 cur2 g1 g2 g3 => ?_))
    refine Vm rfl (V rfl (ov_len_slice Tryz.underlying42 rfl rfl) ?_)
    refine V rfl (OV.as (v' := .slice (some ⟨b2, 0, none⟩) 0 c2) (ov_slice_to Tryz.underlying42 Tryz.sizeOf25 rfl rfl rfl (by omega) (by omega)) rfl) (Va rfl (WL.nil (tn ?_)))
    refine WP.weaken (fun w s => s.blk_row (sz := encStep.size) (m := 0) g1 (by omega) g3) ?_
    refine WP.seq (WP.region (Vm rfl (Va rfl (WL.nil (tn (WP.ret ?_))))))
    refine retQ_ret (v := .slice (some ⟨b2, 0, none⟩) 0 c2) Tryz.results81 (Res.tmp rfl Res.nil) rfl (fun w' s => ⟨_, ?_, s⟩)
    have := k (some ⟨b2, 0, none⟩) c2
    rwa [show cur2.take (0 * encStep.size) = [] by rw [Nat.zero_mul]; rfl]
  · refine V rfl (OV.as (ov_gtr rfl rfl rfl) (congrArg Value.bool (decide_eq_false hm))) (WL.nil (tn (WP.cond_false rfl (WP.skip (tn ?_)))))
    refine WP.weaken (fun w s => s.nilrow 25 encStep.size) ?_
    refine WP.seq (WP.region (Vm rfl (Va rfl (WL.nil (tn (WP.ret ?_))))))
    refine retQ_ret (v := .slice none 0 0) Tryz.results81 (Res.tmp rfl Res.nil) rfl (fun w' s => ⟨_, ?_, s⟩)
    exact k none 0
end
end Go.Proofs.YtgpfgnpdbmbknaaGreatDoor.W
