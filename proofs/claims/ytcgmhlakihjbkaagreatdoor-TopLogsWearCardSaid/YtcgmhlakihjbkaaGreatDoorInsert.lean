/- slices.Insert and slices.Delete at a row of the call's own. -/
import Derived.Test.YtcgmhlakihjbkaaGreatDoorExt
import Derived.Test.YtcgmhlakihjbkaaGreatDoorLibJ
set_option linter.unusedVariables false
set_option linter.unusedSimpArgs false
set_option maxRecDepth 100000
set_option maxHeartbeats 4000000
namespace Go.Proofs.YtcgmhlakihjbkaaGreatDoor.W
open Go Go.RowKit
section
variable {n : Nat} {o : Oper} {g : Frm} {w0 : World} {ms : List Ent} {H0 H : Heap}
theorem os_insert {x y z : Operand} {l r l2 : List Item} {i k cap c1 : Nat} {at_ : Int} {ao av : Option Addr} {xs ys : List Value} {ats : Array TypeId} {K : Value → Pred → Prop} (hik : i ≠ k)
    (h : o.op = .call { callee := .value (.func 71), args := [x, y, z].toArray, argTypes := ats }) (hx : ev g x = some (.slice ao l.length cap)) (hy : ev g y = some (.int .i64 at_)) (hz : ev g z = some (.slice av r.length c1))
    (hi : ms[i]? = some (.row 68 (encItem).size l.length (.slice ao l.length cap) xs)) (hk : ms[k]? = some (.row 68 (encItem).size r.length (.slice av r.length c1) ys)) (hR : RL H encItem l xs) (hS : RL H encItem r ys) (hr : 0 < r.length) (hm : insO 64 l at_ r = some l2)
    (kk : ∀ ao' cap' xs', RL H encItem l2 xs' → K (.slice ao' l2.length cap') (St w0 H0 (ms.set i (.row 68 (encItem).size l2.length (.slice ao' l2.length cap') xs')) H)) : OS Tryz.prog n o g (St w0 H0 ms H) K := by
  obtain ⟨h0, h1, hb, hM, rfl⟩ := insO_some hm
  have hll : (l.take at_.toNat ++ r ++ l.drop at_.toNat).length = l.length + r.length := by
    simp only [List.length_append, List.length_take, List.length_drop]
    omega
  rw [hll] at kk
  have hmm : maxLen ≤ 9223372036854775807 := by decide
  have hxl : xs.length = l.length * (encItem).size := hR.1
  have hyl : ys.length = r.length * (encItem).size := hS.1
  have honeX : xs.all (·.oneCell') = true := hR.ones (by decide) one_encItem
  have honeY : ys.all (·.oneCell') = true := hS.ones (by decide) one_encItem
  have hki : ∀ e, (ms.set i e)[k]? = some (.row 68 (encItem).size r.length (.slice av r.length c1) ys) := fun e => by rw [List.getElem?_set_ne hik]; exact hk
  have hil : i < ms.length := (List.getElem?_eq_some_iff.1 hi).1
  refine os_inline (cap := []) (vs := [.slice ao l.length cap, .int .i64 at_, .slice av r.length c1]) Tryz.call71 h rfl (by simp only [evs, hx, hy, hz]) Tryz.func71 rfl 95 Tryz.ntmps71 rfl (fun w' s => ?_)
  obtain ⟨bv, curv, hav, -⟩ := own_some (s.sat _ (List.mem_of_getElem? hk)) hr
  subst hav
  have hcap : l.length ≤ cap := by
    have si : w'.ownsRow _ _ _ _ _ _ := s.sat _ (List.mem_of_getElem? hi)
    rcases si.2 with ⟨e1, e2⟩ | ⟨b', c', _, e1, _, _, e3, _⟩
    · injection e1 with _ q1 q2; omega
    · cases e1; exact e3
  have hmax : cap ≤ maxLen := by
    have si : w'.ownsRow _ _ _ _ _ _ := s.sat _ (List.mem_of_getElem? hi)
    rcases si.2 with ⟨e1, e2⟩ | ⟨b', c', _, e1, _, _, _, e3, _⟩
    · injection e1 with _ q1 q2; subst q2; exact Nat.zero_le _
    · cases e1; exact e3
  have hao : 0 < l.length → ∃ b, ao = some ⟨b, 0, none⟩ := fun h0 => by
    obtain ⟨b, _, e, -⟩ := own_some (s.sat _ (List.mem_of_getElem? hi)) h0
    exact ⟨b, e⟩
  have hne : ∀ b, ao = some ⟨b, 0, none⟩ → bv ≠ b := fun b e e2 => by
    subst e2
    exact s.far hi hk hik bv (by rw [e]; rfl) rfl
  have cellY : ∀ w (ms' : List Ent) (q : Nat), ms'[q]? = some (.row 68 (encItem).size r.length (.slice (some ⟨bv, 0, none⟩) r.length c1) ys) → St w0 H0 ms' H w → ∀ j v, ys[j]? = some v → w.cell? ((⟨bv, 0, none⟩ : Addr).add j) = some v := fun w ms' q hq s => World.ownsRow.cells (s.sat _ (List.mem_of_getElem? hq)) rfl
  clear s w'
  have w1 : IntKind.i64.wrap ((l.length : Int) + (r.length : Int)) = (l.length : Int) + (r.length : Int) := by rw [IntKind.wrap_i64]; omega
  refine WP.seq ?_
  refine WP.region ?_
  refine WL.quiet (Runs.free rfl) rfl rfl (OV.quiet (ov_assign rfl rfl)) ?_
  refine WL.nil ?_
  refine then_normal ?_
  refine WP.seq ?_
  refine WP.region ?_
  refine WL.quiet (Runs.free rfl) rfl rfl (OV.quiet (ov_move rfl rfl)) ?_
  refine WL.quiet (Runs.free rfl) rfl rfl (OV.quiet (ov_move rfl rfl)) ?_
  refine WL.quiet (Runs.free rfl) rfl rfl (OV.quiet (ov_slice_fromO Tryz.underlying33 Tryz.sizeOf68 rfl rfl rfl h0 h1)) ?_
  refine WL.nil ?_
  refine then_normal ?_
  refine WP.seq ?_
  refine WP.region ?_
  refine WL.quiet (Runs.free rfl) rfl rfl (OV.quiet (ov_move rfl rfl)) ?_
  refine WL.quiet (Runs.free rfl) rfl rfl (OV.quiet (ov_len_slice Tryz.underlying33 rfl rfl)) ?_
  refine WL.quiet (Runs.free rfl) rfl rfl (OV.quiet (ov_assign rfl rfl)) ?_
  refine WL.nil ?_
  refine then_normal ?_
  refine WP.seq ?_
  refine WP.seq ?_
  refine WP.region ?_
  refine WL.quiet (Runs.free rfl) rfl rfl (OV.quiet (ov_move rfl rfl)) ?_
  refine WL.quiet (Runs.free rfl) rfl rfl (OV.quiet (OV.as (ov_eql rfl rfl rfl) (congrArg Value.bool (beq_eq_false_iff_ne.2 (by omega))))) ?_
  refine WL.nil ?_
  refine then_normal ?_
  refine WP.cond_false rfl ?_
  refine WP.skip ?_
  refine then_normal ?_
  refine WP.seq ?_
  refine WP.region ?_
  refine WL.quiet (Runs.free rfl) rfl rfl (OV.quiet (ov_move rfl rfl)) ?_
  refine WL.quiet (Runs.free rfl) rfl rfl (OV.quiet (ov_len_slice Tryz.underlying33 rfl rfl)) ?_
  refine WL.quiet (Runs.free rfl) rfl rfl (OV.quiet (ov_assign rfl rfl)) ?_
  refine WL.nil ?_
  refine then_normal ?_
  refine WP.seq ?_
  refine WP.seq ?_
  refine WP.region ?_
  refine WL.quiet (Runs.free rfl) rfl rfl (OV.quiet (ov_move rfl rfl)) ?_
  refine WL.quiet (Runs.free rfl) rfl rfl (OV.quiet (ov_move rfl rfl)) ?_
  by_cases hend : at_ = (l.length : Int)
  · refine WL.quiet (Runs.free rfl) rfl rfl (OV.quiet (OV.as (ov_eql rfl rfl rfl) (congrArg Value.bool (beq_iff_eq.2 hend)))) ?_
    refine WL.nil ?_
    refine then_normal ?_
    refine WP.cond_true rfl ?_
    refine WP.seq ?_
    refine WP.region ?_
    refine WL.quiet (Runs.free rfl) rfl rfl (OV.quiet (ov_move rfl rfl)) ?_
    refine WL.quiet (Runs.free rfl) rfl rfl (OV.quiet (ov_move rfl rfl)) ?_
    refine WL.step (Runs.free rfl) rfl rfl (os_app (i := i) (j := k) (En := encItem) (xs := xs) (ys := ys) (x := l ++ r) Tryz.underlying33 (by kernel_rfl : (Tryz.prog.info? 68).map (fun i => (i.zero, i.size, i.bytes)) = some (some (.agg #[(mkS []), (.int .i64 0), (.int .i64 0), (.int .i64 0), (.bool false), (.int .i64 0), (.int .i64 0)]), (encItem).size, 64)) rfl (by decide) rfl rfl rfl hi hk honeY hR hS (by unfold appO; rw [if_pos ⟨hb, hM⟩]) (fun ao2 cap2 rl => ?_))
    refine WL.quiet (Runs.free rfl) rfl rfl (OV.quiet (ov_assign rfl rfl)) ?_
    refine WL.nil ?_
    refine then_normal ?_
    refine WP.ret ?_
    refine then_ret ?_
    refine retQ_ret (v := .slice ao2 (l ++ r).length cap2) Tryz.results71 (Res.tmp rfl Res.nil) rfl (fun w' s => ⟨_, ?_, s⟩)
    have e : l.take at_.toNat ++ r ++ l.drop at_.toNat = l ++ r := by
      rw [hend]
      simp
    have := kk ao2 cap2 (xs ++ ys) (by rw [e]; exact rl)
    rw [List.length_append]
    exact this
  have hlt : at_ < (l.length : Int) := by omega
  have hl0 : 0 < l.length := by omega
  obtain ⟨b, rfl⟩ := hao hl0
  refine WL.quiet (Runs.free rfl) rfl rfl (OV.quiet (OV.as (ov_eql rfl rfl rfl) (congrArg Value.bool (beq_eq_false_iff_ne.2 hend)))) ?_
  refine WL.nil ?_
  refine then_normal ?_
  refine WP.cond_false rfl ?_
  refine WP.skip ?_
  refine then_normal ?_
  obtain ⟨a, rfl⟩ : ∃ a : Nat, at_ = (a : Int) := ⟨at_.toNat, by omega⟩
  have hta : ((a : Int)).toNat = a := by simp
  rw [hta] at kk hll
  have hal : a < l.length := by omega
  have w2 : IntKind.i64.wrap ((l.length : Int) + (r.length : Int) - (a : Int)) = ((l.length + r.length - a : Nat) : Int) := by rw [IntKind.wrap_i64]; omega
  have w3 : IntKind.i64.wrap ((a : Int) + (r.length : Int)) = ((a + r.length : Nat) : Int) := by rw [IntKind.wrap_i64]; omega
  have hpos : 0 < (encItem).size := by decide
  have hdl : (xs.drop (a * (encItem).size)).length = (l.length - a) * (encItem).size := by rw [List.length_drop, hxl, Nat.sub_mul]
  have m1 : a * (encItem).size + r.length * (encItem).size = (a + r.length) * (encItem).size := by rw [Nat.add_mul]
  have m2 : (a + r.length) * (encItem).size + (l.length - a) * (encItem).size = (l.length + r.length) * (encItem).size := by rw [← Nat.add_mul]; congr 1; omega
  have rl : RL H encItem (l.take a ++ r ++ l.drop a) (xs.take (a * (encItem).size) ++ ys ++ xs.drop (a * (encItem).size)) := ((hR.take a).append hS).append (hR.drop a)
  refine WP.seq ?_
  refine WP.seq ?_
  refine WP.region ?_
  refine WL.quiet (Runs.free rfl) rfl rfl (OV.quiet (ov_move rfl rfl)) ?_
  refine WL.quiet (Runs.free rfl) rfl rfl (OV.quiet (ov_move rfl rfl)) ?_
  refine WL.quiet (Runs.free rfl) rfl rfl (OV.quiet (OV.as (ov_add rfl rfl rfl) (congrArg (Value.int .i64) w1))) ?_
  refine WL.quiet (Runs.free rfl) rfl rfl (OV.quiet (ov_move rfl rfl)) ?_
  refine WL.quiet (Runs.free rfl) rfl rfl (OV.quiet (ov_cap Tryz.underlying33 rfl rfl)) ?_
  by_cases hroom : l.length + r.length ≤ cap
  · refine WL.quiet (Runs.free rfl) rfl rfl (OV.quiet (OV.as (ov_gtr rfl rfl rfl) (congrArg Value.bool (decide_eq_false (by omega))))) ?_
    refine WL.nil ?_
    refine then_normal ?_
    refine WP.cond_false rfl ?_
    refine WP.skip ?_
    refine then_normal ?_
    refine WP.weaken (S₁ := fun w => ∃ cur : List Value, cur.length = cap * (encItem).size ∧ cur.take (l.length * (encItem).size) = xs ∧ St w0 H0 (ms.set i (.blk b 68 cur)) H w) (fun w s => ?_) ?_
    · obtain ⟨b', cur, e1, e2, _, _, e3, e4⟩ := s.row_blk_at hi hl0
      cases e1
      exact ⟨cur, e2, e3, e4⟩
    refine WP.ex fun cur => ?_
    refine WP.pre fun hcl => ?_
    refine WP.pre fun hct => ?_
    have hfit : (l.length + r.length) * (encItem).size ≤ cur.length := by rw [hcl]; exact Nat.mul_le_mul_right _ hroom
    have hib : ∀ e, (ms.set i e)[i]? = some e := fun e => List.getElem?_set_self hil
    refine WP.seq ?_
    refine WP.region ?_
    refine WL.quiet (Runs.free rfl) rfl rfl (OV.quiet (ov_move rfl rfl)) ?_
    refine WL.quiet (Runs.free rfl) rfl rfl (OV.quiet (ov_move rfl rfl)) ?_
    refine WL.quiet (Runs.free rfl) rfl rfl (OV.quiet (ov_move rfl rfl)) ?_
    refine WL.quiet (Runs.free rfl) rfl rfl (OV.quiet (OV.as (ov_add rfl rfl rfl) (congrArg (Value.int .i64) w1))) ?_
    refine WL.quiet (Runs.free rfl) rfl rfl (OV.quiet (OV.as (v' := .slice (some ⟨b, 0, none⟩) (l.length + r.length) cap) (ov_slice_to Tryz.underlying33 Tryz.sizeOf68 rfl rfl rfl (by omega) (by omega)) (by congr 1))) ?_
    refine WL.quiet (Runs.free rfl) rfl rfl (OV.quiet (ov_assign rfl rfl)) ?_
    refine WL.nil ?_
    refine then_normal ?_
    refine WP.seq ?_
    refine WP.seq ?_
    refine WP.region ?_
    refine WL.quiet (Runs.free rfl) rfl rfl (OV.quiet (ov_move rfl rfl)) ?_
    refine WL.quiet (Runs.free rfl) rfl rfl (OV.quiet (ov_move rfl rfl)) ?_
    refine WL.quiet (Runs.free rfl) rfl rfl (OV.quiet (ov_move rfl rfl)) ?_
    refine WL.quiet (Runs.free rfl) rfl rfl (OV.quiet (ov_move rfl rfl)) ?_
    refine WL.quiet (Runs.free rfl) rfl rfl (OV.quiet (OV.as (ov_add rfl rfl rfl) (congrArg (Value.int .i64) w3))) ?_
    have so : ∀ {o' : Oper} {g' : Frm} {S' : Pred} {x' y' : Operand} {q : Nat}, o'.op = .slice 33 x' (some y') none none → ev g' x' = some (.slice (some ⟨b, 0, none⟩) (l.length + r.length) cap) → ev g' y' = some (.int .i64 ((q : Nat) : Int)) → q < l.length + r.length → OV Tryz.prog 95 o' g' S' (.slice (some ⟨b, q * (encItem).size, none⟩) (l.length + r.length - q) (cap - q)) := fun {o' g' S' x' y' q} e1 e2 e3 e4 =>
      OV.as (ov_slice_from Tryz.underlying33 Tryz.sizeOf68 e1 e2 e3 (by omega) (by omega) hroom) (by
        have hq : ((q : Nat) : Int).toNat = q := by simp
        rw [hq, offA_lt (by omega), Nat.zero_add]
        rfl)
    refine WL.quiet (Runs.free rfl) rfl rfl (OV.quiet (so rfl rfl rfl (by omega))) ?_
    refine WL.quiet (Runs.free rfl) rfl rfl (OV.quiet (ov_overlaps (R := 4) Tryz.func87 (by kernel_rfl) (by kernel_rfl) (by kernel_rfl) (by kernel_rfl) Tryz.underlying33 Tryz.sizeOf68 rfl rfl rfl (hne b rfl) (fun w s => ?_) (fun w s => ?_))) ?_
    · obtain ⟨b', cu, e1, e2, -⟩ := own_some (s.sat _ (List.mem_of_getElem? (hki _))) hr
      cases e1
      exact ⟨_, _, e2⟩
    · exact ⟨_, _, s.sat _ (List.mem_of_getElem? (hib _)), by
        have h1 : 0 < (l.length + r.length) * (encItem).size := Nat.mul_pos (by omega) hpos
        simp only [List.size_toArray]
        omega⟩
    refine WL.quiet (Runs.free rfl) rfl rfl (OV.quiet (ov_not rfl rfl)) ?_
    refine WL.nil ?_
    refine then_normal ?_
    refine WP.cond_true rfl ?_
    refine WP.seq ?_
    refine WP.region_any (S₀ := fun _ => True) 9 rfl (by kernel_rfl) (fun _ _ => trivial) (fun _ s => s.drew) ?_
    refine AL.take (i := 0) rfl (by kernel_rfl) (by kernel_rfl) (by kernel_rfl) (Runs.free rfl) rfl rfl (ov_move rfl rfl) ?_
    refine AL.take (i := 1) rfl (by kernel_rfl) (by kernel_rfl) (by kernel_rfl) (Runs.free rfl) rfl rfl (ov_move rfl rfl) ?_
    refine AL.take (i := 2) rfl (by kernel_rfl) (by kernel_rfl) (by kernel_rfl) (Runs.free rfl) rfl rfl (ov_move rfl rfl) ?_
    refine AL.take (i := 3) rfl (by kernel_rfl) (by kernel_rfl) (by kernel_rfl) (Runs.free rfl) rfl rfl (OV.as (ov_add rfl rfl rfl) (congrArg (Value.int .i64) w3)) ?_
    refine AL.take (i := 4) rfl (by kernel_rfl) (by kernel_rfl) (by kernel_rfl) (Runs.free rfl) rfl rfl (so rfl rfl rfl (by omega)) ?_
    refine AL.take (i := 5) rfl (by kernel_rfl) (by kernel_rfl) (by kernel_rfl) (Runs.free rfl) rfl rfl (ov_move rfl rfl) ?_
    refine AL.take (i := 6) rfl (by kernel_rfl) (by kernel_rfl) (by kernel_rfl) (Runs.free rfl) rfl rfl (ov_move rfl rfl) ?_
    refine AL.take (i := 7) rfl (by kernel_rfl) (by kernel_rfl) (by kernel_rfl) (Runs.free rfl) rfl rfl (so rfl rfl rfl (by omega)) ?_
    refine AL.any (rs := [8]) (by kernel_rfl) (by decide) ?_
    refine ALs.cons (i := 8) rfl (Runs.free rfl) rfl rfl ?_ ALs.nil
    refine os_copy_blk (i := i) (T := 68) (cur := cur) (cs := xs.drop (a * (encItem).size)) (sz := (encItem).size) Tryz.underlying33 (by kernel_rfl) rfl rfl rfl (hib _) ?_ (fun w s j v hj => ?_) ?_ ?_ ?_
    · rw [hdl]
      congr 1
      show l.length - a = min _ _
      omega
    · have hc : w.heap[b]? = some (.cells cur.toArray 68 (0, 0)) := s.sat _ (List.mem_of_getElem? (hib _))
      rw [Addr.add_lit]
      simp only [World.cell?, hc]
      rw [← hct, List.getElem?_drop, List.getElem?_take] at hj
      split at hj
      · simpa using hj
      · cases hj
    · rw [hdl]
      omega
    · exact List.all_eq_true.2 fun v hv => List.all_eq_true.1 honeX v (List.mem_of_mem_drop hv)
    rw [List.set_set]
    refine ⟨fun _ _ => trivial, ?_⟩
    refine AL.done (by kernel_rfl) ?_
    refine then_normal ?_
    refine WP.seq ?_
    refine WP.region ?_
    refine WL.quiet (Runs.free rfl) rfl rfl (OV.quiet (ov_move rfl rfl)) ?_
    refine WL.quiet (Runs.free rfl) rfl rfl (OV.quiet (ov_move rfl rfl)) ?_
    refine WL.quiet (Runs.free rfl) rfl rfl (OV.quiet (so rfl rfl rfl (by omega))) ?_
    refine WL.quiet (Runs.free rfl) rfl rfl (OV.quiet (ov_move rfl rfl)) ?_
    refine WL.step (Runs.free rfl) rfl rfl (os_copy_blk (i := i) (T := 68) (cs := ys) (sz := (encItem).size) Tryz.underlying33 (by kernel_rfl) rfl rfl rfl (hib _) (by rw [hyl]; congr 1; show r.length = min _ _; omega) (fun w s => cellY w _ k (hki _) s) (by rw [spl_length (by rw [hdl]; omega), hyl]; omega) honeY ?_)
    rw [List.set_set]
    refine WL.nil ?_
    refine then_normal ?_
    refine WP.weaken (fun w s => s.blk_row_at (cap := cap) (sz := (encItem).size) (m := l.length + r.length) (hib _) (by rw [spl_length (by rw [spl_length (by rw [hdl]; omega), hyl]; omega), spl_length (by rw [hdl]; omega), hcl]) hroom hmax) ?_
    rw [List.set_set]
    have hfin : (spl (spl cur ((a + r.length) * (encItem).size) (xs.drop (a * (encItem).size))) (a * (encItem).size) ys).take ((l.length + r.length) * (encItem).size) = xs.take (a * (encItem).size) ++ ys ++ xs.drop (a * (encItem).size) := by
      have h1 : cur.take (a * (encItem).size) = xs.take (a * (encItem).size) := by
        rw [← hct, List.take_take, Nat.min_eq_left (Nat.mul_le_mul_right _ (by omega))]
      have h2 := spl_down (cur := cur) (ys := ys) (zs := xs.drop (a * (encItem).size)) (a := a * (encItem).size) (by rw [hyl, hdl, m1, m2]; exact hfit)
      rw [hyl, hdl, m1, m2] at h2
      rw [h2, h1]
    rw [hfin]
    refine WP.seq ?_
    refine WP.region ?_
    refine WL.quiet (Runs.free rfl) rfl rfl (OV.quiet (ov_move rfl rfl)) ?_
    refine WL.quiet (Runs.free rfl) rfl rfl (OV.quiet (ov_assign rfl rfl)) ?_
    refine WL.nil ?_
    refine then_normal ?_
    refine WP.ret ?_
    refine then_ret ?_
    refine retQ_ret (v := .slice (some ⟨b, 0, none⟩) (l.length + r.length) cap) Tryz.results71 (Res.tmp rfl Res.nil) rfl (fun w' s => ⟨_, ?_, s⟩)
    exact kk _ _ _ rl
  · have hzl : ((l.length + r.length - a : Nat) : Int) = ((l.length + r.length - a : Nat) : Int) := rfl
    have cellX : ∀ w (ms' : List Ent) (q : Nat), ms'[q]? = some (.row 68 (encItem).size l.length (.slice (some ⟨b, 0, none⟩) l.length cap) xs) → St w0 H0 ms' H w → ∀ j v, xs[j]? = some v → w.cell? ((⟨b, 0, none⟩ : Addr).add j) = some v := fun w ms' q hq s => World.ownsRow.cells (s.sat _ (List.mem_of_getElem? hq)) rfl
    have htl : (xs.take (a * (encItem).size)).length = a * (encItem).size := by
      rw [List.length_take, hxl]
      exact Nat.min_eq_left (Nat.mul_le_mul_right _ (by omega))
    refine WL.quiet (Runs.free rfl) rfl rfl (OV.quiet (OV.as (ov_gtr rfl rfl rfl) (congrArg Value.bool (decide_eq_true (by omega))))) ?_
    refine WL.nil ?_
    refine then_normal ?_
    refine WP.cond_true rfl ?_
    refine WP.seq ?_
    refine WP.region ?_
    refine WL.quiet (Runs.free rfl) rfl rfl (OV.quiet (ov_move rfl rfl)) ?_
    refine WL.quiet (Runs.free rfl) rfl rfl (OV.quiet (ov_move rfl rfl)) ?_
    refine WL.quiet (Runs.free rfl) rfl rfl (OV.quiet (OV.as (v' := .slice (some ⟨b, 0, none⟩) a cap) (ov_slice_to Tryz.underlying33 Tryz.sizeOf68 rfl rfl rfl (by omega) (by omega)) (by congr 1))) ?_
    refine WL.quiet (Runs.free rfl) rfl rfl (OV.quiet (ov_move rfl rfl)) ?_
    refine WL.quiet (Runs.free rfl) rfl rfl (OV.quiet (ov_move rfl rfl)) ?_
    refine WL.quiet (Runs.free rfl) rfl rfl (OV.quiet (OV.as (ov_add rfl rfl rfl) (congrArg (Value.int .i64) w1))) ?_
    refine WL.quiet (Runs.free rfl) rfl rfl (OV.quiet (ov_move rfl rfl)) ?_
    refine WL.quiet (Runs.free rfl) rfl rfl (OV.quiet (OV.as (ov_sub rfl rfl rfl) (congrArg (Value.int .i64) w2))) ?_
    refine WL.step (Runs.free rfl) rfl rfl (os_append_zeros (m := a) (k := l.length + r.length - a) (sz := (encItem).size) (bytes := 64) (olds := xs.take (a * (encItem).size)) (z := (.agg #[(mkS []), (.int .i64 0), (.int .i64 0), (.int .i64 0), (.bool false), (.int .i64 0), (.int .i64 0)])) Tryz.underlying33 Tryz.underlying3 (by kernel_rfl) rfl hpos rfl rfl rfl rfl (by omega) (by omega) htl (fun w s j v hj => ?_) (by rw [show a + (l.length + r.length - a) = l.length + r.length from by omega]; exact hb) (by omega) (fun b2 c2 cur2 g1 g2 g3 g4 => ?_))
    · rw [List.getElem?_take] at hj
      split at hj
      · exact cellX w ms i hi s j v hj
      · cases hj
    rw [show a + (l.length + r.length - a) = l.length + r.length from by omega] at g2 ⊢
    refine WL.quiet (Runs.free rfl) rfl rfl (OV.quiet (ov_assign rfl rfl)) ?_
    refine WL.nil ?_
    refine then_normal ?_
    have hfit : (l.length + r.length) * (encItem).size ≤ cur2.length := by rw [g1]; exact Nat.mul_le_mul_right _ g2
    have so : ∀ {o' : Oper} {g' : Frm} {S' : Pred} {x' y' : Operand} {q : Nat}, o'.op = .slice 33 x' (some y') none none → ev g' x' = some (.slice (some ⟨b2, 0, none⟩) (l.length + r.length) c2) → ev g' y' = some (.int .i64 ((q : Nat) : Int)) → q < l.length + r.length → OV Tryz.prog 95 o' g' S' (.slice (some ⟨b2, q * (encItem).size, none⟩) (l.length + r.length - q) (c2 - q)) := fun {o' g' S' x' y' q} e1 e2 e3 e4 =>
      OV.as (ov_slice_from Tryz.underlying33 Tryz.sizeOf68 e1 e2 e3 (by omega) (by omega) g2) (by
        have hq : ((q : Nat) : Int).toNat = q := by simp
        rw [hq, offA_lt (by omega), Nat.zero_add]
        rfl)
    have so0 : ∀ {o' : Oper} {g' : Frm} {S' : Pred} {x' y' : Operand} {q : Nat}, o'.op = .slice 33 x' (some y') none none → ev g' x' = some (.slice (some ⟨b, 0, none⟩) l.length cap) → ev g' y' = some (.int .i64 ((q : Nat) : Int)) → q < l.length → OV Tryz.prog 95 o' g' S' (.slice (some ⟨b, q * (encItem).size, none⟩) (l.length - q) (cap - q)) := fun {o' g' S' x' y' q} e1 e2 e3 e4 =>
      OV.as (ov_slice_from Tryz.underlying33 Tryz.sizeOf68 e1 e2 e3 (by omega) (by omega) hcap) (by
        have hq : ((q : Nat) : Int).toNat = q := by simp
        rw [hq, offA_lt (by omega), Nat.zero_add]
        rfl)
    refine WP.seq ?_
    refine WP.region ?_
    refine WL.quiet (Runs.free rfl) rfl rfl (OV.quiet (ov_move rfl rfl)) ?_
    refine WL.quiet (Runs.free rfl) rfl rfl (OV.quiet (ov_move rfl rfl)) ?_
    refine WL.quiet (Runs.free rfl) rfl rfl (OV.quiet (so rfl rfl rfl (by omega))) ?_
    refine WL.quiet (Runs.free rfl) rfl rfl (OV.quiet (ov_move rfl rfl)) ?_
    refine WL.step (Runs.free rfl) rfl rfl (os_copy_blk (i := 0) (T := 68) (cur := cur2) (cs := ys) (sz := (encItem).size) Tryz.underlying33 (by kernel_rfl) rfl rfl rfl rfl (by rw [hyl]; congr 1; show r.length = min _ _; omega) (fun w s => cellY w _ (k + 1) hk s) (by rw [hyl]; omega) honeY ?_)
    refine WL.nil ?_
    refine then_normal ?_
    refine WP.seq ?_
    refine WP.region_any (S₀ := fun _ => True) 9 rfl (by kernel_rfl) (fun _ _ => trivial) (fun _ s => s.drew) ?_
    refine AL.take (i := 0) rfl (by kernel_rfl) (by kernel_rfl) (by kernel_rfl) (Runs.free rfl) rfl rfl (ov_move rfl rfl) ?_
    refine AL.take (i := 1) rfl (by kernel_rfl) (by kernel_rfl) (by kernel_rfl) (Runs.free rfl) rfl rfl (ov_move rfl rfl) ?_
    refine AL.take (i := 2) rfl (by kernel_rfl) (by kernel_rfl) (by kernel_rfl) (Runs.free rfl) rfl rfl (ov_move rfl rfl) ?_
    refine AL.take (i := 3) rfl (by kernel_rfl) (by kernel_rfl) (by kernel_rfl) (Runs.free rfl) rfl rfl (OV.as (ov_add rfl rfl rfl) (congrArg (Value.int .i64) w3)) ?_
    refine AL.take (i := 4) rfl (by kernel_rfl) (by kernel_rfl) (by kernel_rfl) (Runs.free rfl) rfl rfl (so rfl rfl rfl (by omega)) ?_
    refine AL.take (i := 5) rfl (by kernel_rfl) (by kernel_rfl) (by kernel_rfl) (Runs.free rfl) rfl rfl (ov_move rfl rfl) ?_
    refine AL.take (i := 6) rfl (by kernel_rfl) (by kernel_rfl) (by kernel_rfl) (Runs.free rfl) rfl rfl (ov_move rfl rfl) ?_
    refine AL.take (i := 7) rfl (by kernel_rfl) (by kernel_rfl) (by kernel_rfl) (Runs.free rfl) rfl rfl (so0 rfl rfl rfl (by omega)) ?_
    refine AL.any (rs := [8]) (by kernel_rfl) (by decide) ?_
    refine ALs.cons (i := 8) rfl (Runs.free rfl) rfl rfl ?_ ALs.nil
    refine os_copy_blk (i := 0) (T := 68) (cs := xs.drop (a * (encItem).size)) (sz := (encItem).size) Tryz.underlying33 (by kernel_rfl) rfl rfl rfl rfl ?_ (fun w s j v hj => ?_) ?_ ?_ ?_
    · rw [hdl]
      congr 1
      show l.length - a = min _ _
      omega
    · rw [List.getElem?_drop] at hj
      have := cellX w _ (i + 1) hi s _ v hj
      rw [Addr.add_lit] at this ⊢
      rw [Nat.zero_add] at this
      exact this
    · rw [spl_length (by rw [hyl]; omega), hdl]
      omega
    · exact List.all_eq_true.2 fun v hv => List.all_eq_true.1 honeX v (List.mem_of_mem_drop hv)
    refine ⟨fun _ _ => trivial, ?_⟩
    refine AL.done (by kernel_rfl) ?_
    refine then_normal ?_
    refine WP.weaken (fun w s => (s.blk_row_at (i := 0) (cap := c2) (sz := (encItem).size) (m := l.length + r.length) rfl (by rw [spl_length (by rw [spl_length (by rw [hyl]; omega), hdl]; omega), spl_length (by rw [hyl]; omega), g1]) g2 g3).move i) ?_
    have hfin : (spl (spl cur2 (a * (encItem).size) ys) ((a + r.length) * (encItem).size) (xs.drop (a * (encItem).size))).take ((l.length + r.length) * (encItem).size) = xs.take (a * (encItem).size) ++ ys ++ xs.drop (a * (encItem).size) := by
      have h2 := spl_up (cur := cur2) (ys := ys) (zs := xs.drop (a * (encItem).size)) (a := a * (encItem).size) (by rw [hyl, hdl, m1, m2]; exact hfit)
      rw [hyl, hdl, m1, m2, g4] at h2
      exact h2
    rw [hfin]
    refine WP.seq ?_
    refine WP.region ?_
    refine WL.quiet (Runs.free rfl) rfl rfl (OV.quiet (ov_move rfl rfl)) ?_
    refine WL.quiet (Runs.free rfl) rfl rfl (OV.quiet (ov_assign rfl rfl)) ?_
    refine WL.nil ?_
    refine then_normal ?_
    refine WP.ret ?_
    refine then_ret ?_
    refine retQ_ret (v := .slice (some ⟨b2, 0, none⟩) (l.length + r.length) c2) Tryz.results71 (Res.tmp rfl Res.nil) rfl (fun w' s => ⟨_, ?_, s⟩)
    exact kk _ _ _ rl
theorem os_delete {x y z : Operand} {l l2 : List Item} {i cap : Nat} {p q : Int} {ao : Option Addr} {xs : List Value} {ats : Array TypeId} {K : Value → Pred → Prop}
    (h : o.op = .call { callee := .value (.func 73), args := [x, y, z].toArray, argTypes := ats }) (hx : ev g x = some (.slice ao l.length cap)) (hy : ev g y = some (.int .i64 p)) (hz : ev g z = some (.int .i64 q))
    (hi : ms[i]? = some (.row 68 (encItem).size l.length (.slice ao l.length cap) xs)) (hR : RL H encItem l xs) (hm : delO l p q = some l2)
    (kk : ∀ ao' cap' xs', RL H encItem l2 xs' → K (.slice ao' l2.length cap') (St w0 H0 (ms.set i (.row 68 (encItem).size l2.length (.slice ao' l2.length cap') xs')) H)) : OS Tryz.prog n o g (St w0 H0 ms H) K := by
  obtain ⟨h0, h1, h2, rfl⟩ := delO_some hm
  have hmm : maxLen ≤ 9223372036854775807 := by decide
  have hxl : xs.length = l.length * (encItem).size := hR.1
  have honeX : xs.all (·.oneCell') = true := hR.ones (by decide) one_encItem
  have hil : i < ms.length := (List.getElem?_eq_some_iff.1 hi).1
  refine os_inline (cap := []) (vs := [.slice ao l.length cap, .int .i64 p, .int .i64 q]) Tryz.call73 h rfl (by simp only [evs, hx, hy, hz]) Tryz.func73 rfl 33 Tryz.ntmps73 rfl (fun w' s => ?_)
  have hcap : l.length ≤ cap := by
    have si : w'.ownsRow _ _ _ _ _ _ := s.sat _ (List.mem_of_getElem? hi)
    rcases si.2 with ⟨e1, e2⟩ | ⟨b', c', _, e1, _, _, e3, _⟩
    · injection e1 with _ q1 q2; omega
    · cases e1; exact e3
  have hmax : cap ≤ maxLen := by
    have si : w'.ownsRow _ _ _ _ _ _ := s.sat _ (List.mem_of_getElem? hi)
    rcases si.2 with ⟨e1, e2⟩ | ⟨b', c', _, e1, _, _, _, e3, _⟩
    · injection e1 with _ q1 q2; subst q2; exact Nat.zero_le _
    · cases e1; exact e3
  have hao : 0 < l.length → ∃ b, ao = some ⟨b, 0, none⟩ := fun h0 => by
    obtain ⟨b, _, e, -⟩ := own_some (s.sat _ (List.mem_of_getElem? hi)) h0
    exact ⟨b, e⟩
  clear s w'
  refine WP.seq ?_
  refine WP.region ?_
  refine WL.quiet (Runs.free rfl) rfl rfl (OV.quiet (ov_assign rfl rfl)) ?_
  refine WL.nil ?_
  refine then_normal ?_
  refine WP.seq ?_
  refine WP.region ?_
  refine WL.quiet (Runs.free rfl) rfl rfl (OV.quiet (ov_move rfl rfl)) ?_
  refine WL.quiet (Runs.free rfl) rfl rfl (OV.quiet (ov_move rfl rfl)) ?_
  refine WL.quiet (Runs.free rfl) rfl rfl (OV.quiet (ov_move rfl rfl)) ?_
  refine WL.quiet (Runs.free rfl) rfl rfl (OV.quiet (ov_move rfl rfl)) ?_
  refine WL.quiet (Runs.free rfl) rfl rfl (OV.quiet (ov_len_slice Tryz.underlying33 rfl rfl)) ?_
  refine WL.quiet (Runs.free rfl) rfl rfl (OV.quiet (ov_slice_lhmO Tryz.underlying33 Tryz.sizeOf68 rfl rfl rfl rfl rfl h0 h1 h2 (by omega))) ?_
  refine WL.nil ?_
  refine then_normal ?_
  refine WP.seq ?_
  refine WP.seq ?_
  refine WP.region ?_
  refine WL.quiet (Runs.free rfl) rfl rfl (OV.quiet (ov_move rfl rfl)) ?_
  refine WL.quiet (Runs.free rfl) rfl rfl (OV.quiet (ov_move rfl rfl)) ?_
  by_cases hpq : p = q
  · refine WL.quiet (Runs.free rfl) rfl rfl (OV.quiet (OV.as (ov_eql rfl rfl rfl) (congrArg Value.bool (beq_iff_eq.2 hpq)))) ?_
    refine WL.nil ?_
    refine then_normal ?_
    refine WP.cond_true rfl ?_
    refine WP.seq ?_
    refine WP.region ?_
    refine WL.quiet (Runs.free rfl) rfl rfl (OV.quiet (ov_move rfl rfl)) ?_
    refine WL.quiet (Runs.free rfl) rfl rfl (OV.quiet (ov_assign rfl rfl)) ?_
    refine WL.nil ?_
    refine then_normal ?_
    refine WP.ret ?_
    refine then_ret ?_
    refine retQ_ret (v := .slice ao l.length cap) Tryz.results73 (Res.tmp rfl Res.nil) rfl (fun w' s => ⟨_, ?_, s⟩)
    have e : l.take p.toNat ++ l.drop q.toNat = l := by rw [hpq]; exact List.take_append_drop _ _
    have hset : ms.set i (.row 68 (encItem).size l.length (.slice ao l.length cap) xs) = ms := by
      obtain ⟨hlt, he⟩ := List.getElem?_eq_some_iff.1 hi
      rw [← he]
      exact List.set_getElem_self ..
    have := kk ao cap xs (by rw [e]; exact hR)
    rw [e, hset] at this
    exact this
  have hl0 : 0 < l.length := by omega
  obtain ⟨b, rfl⟩ := hao hl0
  obtain ⟨a, rfl⟩ : ∃ a : Nat, p = (a : Int) := ⟨p.toNat, by omega⟩
  obtain ⟨d, rfl⟩ : ∃ d : Nat, q = (d : Int) := ⟨q.toNat, by omega⟩
  have hta : ((a : Int)).toNat = a := by simp
  have htd : ((d : Int)).toNat = d := by simp
  rw [hta, htd] at kk
  have had : a < d := by omega
  have hdn : d ≤ l.length := by omega
  have hll : (l.take a ++ l.drop d).length = a + (l.length - d) := by
    simp only [List.length_append, List.length_take, List.length_drop]
    omega
  rw [hll] at kk
  have hpos : 0 < (encItem).size := by decide
  have hdl : (xs.drop (d * (encItem).size)).length = (l.length - d) * (encItem).size := by rw [List.length_drop, hxl, Nat.sub_mul]
  have m1 : a * (encItem).size + (l.length - d) * (encItem).size = (a + (l.length - d)) * (encItem).size := by rw [Nat.add_mul]
  have m2 : (a + (l.length - d)) * (encItem).size + (l.length - (a + (l.length - d))) * (encItem).size = l.length * (encItem).size := by rw [← Nat.add_mul]; congr 1; omega
  have m3 : (a + (l.length - d)) * (encItem).size ≤ l.length * (encItem).size := Nat.mul_le_mul_right _ (by omega)
  have rl : RL H encItem (l.take a ++ l.drop d) (xs.take (a * (encItem).size) ++ xs.drop (d * (encItem).size)) := (hR.take a).append (hR.drop d)
  refine WL.quiet (Runs.free rfl) rfl rfl (OV.quiet (OV.as (ov_eql rfl rfl rfl) (congrArg Value.bool (beq_eq_false_iff_ne.2 hpq)))) ?_
  refine WL.nil ?_
  refine then_normal ?_
  refine WP.cond_false rfl ?_
  refine WP.skip ?_
  refine then_normal ?_
  refine WP.seq ?_
  refine WP.region ?_
  refine WL.quiet (Runs.free rfl) rfl rfl (OV.quiet (ov_move rfl rfl)) ?_
  refine WL.quiet (Runs.free rfl) rfl rfl (OV.quiet (ov_len_slice Tryz.underlying33 rfl rfl)) ?_
  refine WL.quiet (Runs.free rfl) rfl rfl (OV.quiet (ov_assign rfl rfl)) ?_
  refine WL.nil ?_
  refine then_normal ?_
  refine WP.weaken (S₁ := fun w => ∃ cur : List Value, cur.length = cap * (encItem).size ∧ cur.take (l.length * (encItem).size) = xs ∧ St w0 H0 (ms.set i (.blk b 68 cur)) H w) (fun w s => ?_) ?_
  · obtain ⟨b', cur, e1, e2, _, _, e3, e4⟩ := s.row_blk_at hi hl0
    cases e1
    exact ⟨cur, e2, e3, e4⟩
  refine WP.ex fun cur => ?_
  refine WP.pre fun hcl => ?_
  refine WP.pre fun hct => ?_
  have hfit : l.length * (encItem).size ≤ cur.length := by rw [hcl]; exact Nat.mul_le_mul_right _ hcap
  have hib : ∀ e, (ms.set i e)[i]? = some e := fun e => List.getElem?_set_self hil
  refine WP.seq ?_
  refine WP.region_any (S₀ := fun _ => True) 8 rfl (by kernel_rfl) (fun _ _ => trivial) (fun _ s => s.drew) ?_
  refine AL.take (i := 0) rfl (by kernel_rfl) (by kernel_rfl) (by kernel_rfl) (Runs.free rfl) rfl rfl (ov_move rfl rfl) ?_
  refine AL.take (i := 1) rfl (by kernel_rfl) (by kernel_rfl) (by kernel_rfl) (Runs.free rfl) rfl rfl (ov_move rfl rfl) ?_
  refine AL.take (i := 2) rfl (by kernel_rfl) (by kernel_rfl) (by kernel_rfl) (Runs.free rfl) rfl rfl (OV.as (v' := .slice (some ⟨b, 0, none⟩) a cap) (ov_slice_to Tryz.underlying33 Tryz.sizeOf68 rfl rfl rfl (by omega) (by omega)) (by congr 1)) ?_
  refine AL.take (i := 3) rfl (by kernel_rfl) (by kernel_rfl) (by kernel_rfl) (Runs.free rfl) rfl rfl (ov_move rfl rfl) ?_
  refine AL.take (i := 4) rfl (by kernel_rfl) (by kernel_rfl) (by kernel_rfl) (Runs.free rfl) rfl rfl (ov_move rfl rfl) ?_
  refine AL.take (i := 5) rfl (by kernel_rfl) (by kernel_rfl) (by kernel_rfl) (Runs.free rfl) rfl rfl (OV.as (v' := .slice (some (offA b 0 cap d (encItem).size)) (l.length - d) (cap - d)) (ov_slice_from Tryz.underlying33 Tryz.sizeOf68 rfl rfl rfl (by omega) (by omega) hcap) (by rw [htd]; rfl)) ?_
  refine AL.any (rs := [6]) (by kernel_rfl) (by decide) ?_
  refine ALs.cons (i := 6) rfl (Runs.free rfl) rfl rfl ?_ ALs.nil
  refine os_append_blk (i := i) (T := 68) (cur := cur) (m := a) (cap := cap) (cs := xs.drop (d * (encItem).size)) (sz := (encItem).size) Tryz.underlying33 (by kernel_rfl) rfl rfl rfl (hib _) hdl (fun w s j v hj => ?_) (by omega) ?_ ?_ ?_
  · have hc : w.heap[b]? = some (.cells cur.toArray 68 (0, 0)) := s.sat _ (List.mem_of_getElem? (hib _))
    have hjl := (List.getElem?_eq_some_iff.1 hj).1
    rw [hdl] at hjl
    have hdc : d < cap := by
      rcases Nat.lt_or_ge d l.length with q | q
      · omega
      · rw [show l.length - d = 0 from by omega, Nat.zero_mul] at hjl
        omega
    rw [offA_lt hdc, Nat.zero_add, Addr.add_lit]
    simp only [World.cell?, hc]
    rw [← hct, List.getElem?_drop, List.getElem?_take] at hj
    split at hj
    · simpa using hj
    · cases hj
  · rw [hdl]
    omega
  · exact List.all_eq_true.2 fun v hv => List.all_eq_true.1 honeX v (List.mem_of_mem_drop hv)
  rw [List.set_set]
  refine ⟨fun _ _ => trivial, ?_⟩
  refine AL.take (i := 7) rfl (by kernel_rfl) (by kernel_rfl) (by kernel_rfl) (Runs.free rfl) rfl rfl (ov_assign rfl rfl) ?_
  refine AL.done (by kernel_rfl) ?_
  refine then_normal ?_
  refine WP.seq ?_
  refine WP.region ?_
  refine WL.quiet (Runs.free rfl) rfl rfl (OV.quiet (ov_move rfl rfl)) ?_
  refine WL.quiet (Runs.free rfl) rfl rfl (OV.quiet (ov_move rfl rfl)) ?_
  refine WL.quiet (Runs.free rfl) rfl rfl (OV.quiet (ov_len_slice Tryz.underlying33 rfl rfl)) ?_
  refine WL.quiet (Runs.free rfl) rfl rfl (OV.quiet (ov_move rfl rfl)) ?_
  refine WL.quiet (Runs.free rfl) rfl rfl (OV.quiet (OV.as (v' := .slice (some ⟨b, (a + (l.length - d)) * (encItem).size, none⟩) (l.length - (a + (l.length - d))) (cap - (a + (l.length - d)))) (ov_slice_lh Tryz.underlying33 Tryz.sizeOf68 rfl rfl rfl rfl (by omega) (by omega) (by omega)) (by
    have e1 : ((a + (l.length - d) : Nat) : Int).toNat = a + (l.length - d) := by omega
    have e2 : ((l.length : Nat) : Int).toNat = l.length := by omega
    rw [e1, e2, offA_lt (by omega), Nat.zero_add]
    rfl))) ?_
  refine WL.step0 (Runs.free rfl) rfl (os_clear_blk (i := i) (sz := (encItem).size) Tryz.underlying33 Tryz.zeroValue68 (by kernel_rfl) rfl rfl rfl (hib _) (by omega) hpos (by rw [spl_length (by rw [hdl]; omega)]; omega) (fun zs hzs => ?_))
  rw [List.set_set]
  refine WL.nil ?_
  refine then_normal ?_
  refine WP.weaken (fun w s => s.blk_row_at (cap := cap) (sz := (encItem).size) (m := a + (l.length - d)) (hib _) (by rw [spl_length (by rw [spl_length (by rw [hdl]; omega), hzs]; omega), spl_length (by rw [hdl]; omega), hcl]) (by omega) hmax) ?_
  rw [List.set_set]
  have hfin : (spl (spl cur (a * (encItem).size) (xs.drop (d * (encItem).size))) ((a + (l.length - d)) * (encItem).size) zs).take ((a + (l.length - d)) * (encItem).size) = xs.take (a * (encItem).size) ++ xs.drop (d * (encItem).size) := by
    rw [spl_keep (by rw [spl_length (by rw [hdl]; omega)]; omega)]
    have h2 := spl_front (cur := cur) (cs := xs.drop (d * (encItem).size)) (a := a * (encItem).size) (by rw [hdl]; omega)
    rw [hdl, m1] at h2
    have h1 : cur.take (a * (encItem).size) = xs.take (a * (encItem).size) := by
      rw [← hct, List.take_take, Nat.min_eq_left (Nat.mul_le_mul_right _ (by omega))]
    rw [h2, h1]
  rw [hfin]
  refine WP.seq ?_
  refine WP.region ?_
  refine WL.quiet (Runs.free rfl) rfl rfl (OV.quiet (ov_move rfl rfl)) ?_
  refine WL.quiet (Runs.free rfl) rfl rfl (OV.quiet (ov_assign rfl rfl)) ?_
  refine WL.nil ?_
  refine then_normal ?_
  refine WP.ret ?_
  refine retQ_ret (v := .slice (some ⟨b, 0, none⟩) (a + (l.length - d)) cap) Tryz.results73 (Res.tmp rfl Res.nil) rfl (fun w' s => ⟨_, ?_, s⟩)
  exact kk _ _ _ rl
end
end Go.Proofs.YtcgmhlakihjbkaaGreatDoor.W
