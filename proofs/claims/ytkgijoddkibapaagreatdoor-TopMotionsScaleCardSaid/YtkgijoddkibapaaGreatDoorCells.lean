import Derived.Test.YtkgijoddkibapaaGreatDoorPlain
import Derived.Test.YtkgijoddkibapaaGreatDoorExt
import Derived.Test.YtkgijoddkibapaaGreatDoorLibR
import Derived.Test.YtkgijoddkibapaaGreatDoorLibN
import Derived.Test.YtkgijoddkibapaaGreatDoorWalk0
import Derived.Test.YtkgijoddkibapaaGreatDoorProg
set_option linter.unusedVariables false
set_option linter.unusedSimpArgs false
set_option linter.unusedSectionVars false
set_option maxRecDepth 100000
set_option maxHeartbeats 4000000
namespace Go.Proofs.YtkgijoddkibapaaGreatDoor.W
open Go Go.RowKit Go.Proofs.Tryz
abbrev QRow : Type := List Cell × Option Addr × Nat × List Value
abbrev qv (q : QRow) : Value := .slice q.2.1 q.1.length q.2.2.1
abbrev qe (q : QRow) : Ent := .row 112 (encCell).size q.1.length (.slice q.2.1 q.1.length q.2.2.1) q.2.2.2
abbrev NR : Ent := .row 112 (encCell).size 0 (.slice none 0 0) []
def rowsE (L : List QRow) : List Ent := L.map qe
def QOk (H : Heap) (N : Nat) (L : List QRow) : Prop := (∀ q ∈ L, RL H encCell q.1 q.2.2.2) ∧ L.length = N
def nilQ (N : Nat) : List QRow := List.replicate N ([], none, 0, [])
theorem made_nil (N : Nat) : (madeCells (Value.slice none 0 0).cells (N * 1)).toList = (nilQ N).map qv := by
  unfold nilQ
  rw [List.map_replicate]
  refine List.ext_getElem (by simp [madeCells]) fun i h1 h2 => ?_
  have e : i % 1 = 0 := Nat.mod_one i
  simp [madeCells, Value.cells, e]
theorem nilQ_fst (N : Nat) : (nilQ N).map (·.1) = List.replicate N [] := by
  unfold nilQ
  rw [List.map_replicate]
theorem nilQ_ok (H : Heap) (N : Nat) : QOk H N (nilQ N) := ⟨fun q hq => by
  rw [(List.mem_replicate.1 hq).2]
  exact RL.nil _ _, by simp [nilQ]⟩
theorem nil_front {w0 w : World} {H0 H : Heap} {ms : List Ent} (s : St w0 H0 ms H w) : ∀ N : Nat, St w0 H0 (List.replicate N NR ++ ms) H w
  | 0 => s
  | N + 1 => by
    rw [List.replicate_succ, List.cons_append]
    exact (nil_front s N).nilrow 112 (encCell).size
theorem nil_rows {w0 w : World} {H0 H : Heap} {ms : List Ent} (N : Nat) (s : St w0 H0 ms H w) : St w0 H0 (NR :: (ms ++ rowsE (nilQ N))) H w := by
  have e : rowsE (nilQ N) = List.replicate N NR := by
    unfold rowsE nilQ
    rw [List.map_replicate]
    rfl
  rw [e]
  exact (nil_front s N).comm.nilrow 112 (encCell).size
theorem at_map {Q : List QRow} {i : Int} {l : List Cell} (h : at? (Q.map (·.1)) i = some l) : ∃ (a : Nat) (q : QRow), i = (a : Int) ∧ Q[a]? = some q ∧ q.1 = l := by
  unfold at? at h
  split at h
  · rename_i h0
    rw [List.getElem?_map] at h
    cases hq : Q[i.toNat]? with
    | none => rw [hq] at h; cases h
    | some q => rw [hq] at h; exact ⟨i.toNat, q, by omega, hq, Option.some.inj h⟩
  · cases h
theorem rows_at {Q : List QRow} {a : Nat} {q : QRow} (h : Q[a]? = some q) : (rowsE Q)[a]? = some (qe q) := by
  unfold rowsE
  rw [List.getElem?_map, h]
  rfl
theorem rows_setE (Q : List QRow) (a : Nat) (q : QRow) : (rowsE Q).set a (qe q) = rowsE (Q.set a q) := by
  unfold rowsE
  rw [List.map_set]
theorem rows_fin {w0 w : World} {H0 H : Heap} {e0 e1 e2 e3 e4 e5 e4' : Ent} {Q : List QRow} {a : Nat} {q' : QRow} (s : St w0 H0 (((e0 :: e1 :: e2 :: e3 :: e4 :: e5 :: rowsE Q).set (a + 6) (qe q')).set 4 e4') H w) : St w0 H0 (e1 :: e2 :: e3 :: e4' :: e5 :: rowsE (Q.set a q')) H w :=
  s.selectT 6 [1, 2, 3, 4, 5] (by decide) rfl (by
    show e1 :: e2 :: e3 :: e4' :: e5 :: (rowsE Q).set a (qe q') = _
    rw [rows_setE])
theorem spl_set {Q : List QRow} {a : Nat} {q : QRow} (h : a < Q.length) : spl (Q.map qv) a [qv q] = (Q.set a q).map qv := by
  rw [List.map_set, List.set_eq_take_append_cons_drop, if_pos (by simpa using h), spl]
  simp
theorem QOk.set {H : Heap} {N : Nat} {Q : List QRow} (h : QOk H N Q) (a : Nat) {q : QRow} (k : RL H encCell q.1 q.2.2.2) : QOk H N (Q.set a q) :=
  ⟨fun z hz => by
    rcases List.mem_or_eq_of_mem_set hz with hz | rfl
    · exact h.1 z hz
    · exact k, by rw [List.length_set]; exact h.2⟩
theorem map_set_fst (Q : List QRow) (a : Nat) (q : QRow) : (Q.set a q).map (·.1) = (Q.map (·.1)).set a q.1 := by rw [List.map_set]
theorem hold_all {w0 w : World} {H0 : Heap} {ms : List Ent} : ∀ (L : List QRow) (H : Heap), (∀ q ∈ L, RL H encCell q.1 q.2.2.2) → St w0 H0 (rowsE L ++ ms) H w → ∃ H1, Le H H1 ∧ RL H1 (encSl encCell) (L.map (·.1)) (L.map qv) ∧ St w0 H0 ms H1 w
  | [], H, _, s => ⟨H, Le.refl _, RL.nil _ _, s⟩
  | q :: L, H, h, s => by
    obtain ⟨H', c, le, sl, s'⟩ := St.row_held (show St w0 H0 (qe q :: (rowsE L ++ ms)) H w from s) (h q (List.mem_cons_self ..))
    obtain ⟨H1, le1, rl, s1⟩ := hold_all L H' (fun z hz => (h z (List.mem_cons_of_mem _ hz)).mono le) s'
    exact ⟨H1, le.trans le1, RL.cons (cs := [qv q]) ⟨q.2.1, q.2.2.1, rfl, sl.mono le1, c⟩ rl, s1⟩
theorem rows_held {w0 w : World} {H0 H : Heap} {Q : List QRow} {e : Ent} {b : Nat} (h : ∀ q ∈ Q, RL H encCell q.1 q.2.2.2) (s : St w0 H0 (e :: .blk b 156 (Q.map qv) :: rowsE Q) H w) : ∃ H1, Le H H1 ∧ RL H1 (encSl encCell) (Q.map (·.1)) (Q.map qv) ∧ St w0 H0 [.blk b 156 (Q.map qv)] H1 w :=
  hold_all Q H h (St.comm (a := [.blk b 156 (Q.map qv)]) (s.selectT 2 [1] (by decide) rfl rfl))
section
variable {F : Fence} {P : Program} {n : Nat} {g : Frm} {ops : Array Oper} {l : List Oper} {K : Frm → Pred → Prop}
theorem WL.ex {α : Type} {S : α → Pred} (h : ∀ x, WL F P n ops l g (S x) K) : WL F P n ops l g (fun w => ∃ x, S x w) K := fun a w f ⟨x, s⟩ => h x a w f s
theorem WL.pre {p : Prop} {S : Pred} (h : p → WL F P n ops l g S K) : WL F P n ops l g (fun w => p ∧ S w) K := fun a w f ⟨hp, s⟩ => h hp a w f s
end
theorem cellsG_con (p_s : Sequence) (ao1 : Option Addr) (cap1 : Nat) (w : World) (H : Heap) (hH : Le H (hp w)) (h1 : SL H encStep ao1 p_s.steps) (hc1 : p_s.steps.length ≤ cap1) (hG : Glob H) (r : (List (List Cell))) (hm : cellsG p_s = some r) :
  Con prog 85 [(.agg #[(.int .i64 p_s.actuators), (.slice ao1 p_s.steps.length cap1)])] w H (fun v H' => ∃ (ao2 : Option Addr) (cap2 : Nat), v = (.slice ao2 r.length cap2) ∧ SL H' (encSl encCell) ao2 r ∧ r.length ≤ cap2) := by
 unfold cellsG at hm
 refine con_of hH func85 rfl 99 ntmps85 rfl ?_
 refine WP.seq (WP.region ?_)
 refine ws rfl (os_box (cs := [(.int .i64 p_s.actuators), (.slice ao1 p_s.steps.length cap1)]) rfl rfl rfl (fun b1 => ?_))
 refine Va rfl (WL.nil (tn (WP.seq (WP.region (V rfl (ov_fieldAddr underlying24 rfl rfl rfl sizeOf3 rfl rfl) (Vl 0 isAgg3 rfl ?_))))))
 obtain ⟨u0, e0, hm⟩ := bind_some hm
 replace e0 := guardO_some e0
 rw [Bool.and_eq_true, decide_eq_true_eq, decide_eq_true_eq] at e0
 obtain ⟨N, hN⟩ : ∃ N : Nat, p_s.actuators = (N : Int) := ⟨p_s.actuators.toNat, by omega⟩
 have hNb : N ≤ 1000 := by omega
 refine ws rfl (os_makeSlice_n (N := N) (sz := 1) (bytes := 24) (z := (.slice none 0 0)) (cs := (nilQ N).map qv) underlying154 (by kernel_rfl) (made_nil N) rfl rfl rfl hN (by omega) (by omega) (fun b2 => ?_))
 refine Va rfl (WL.nil (tn (WP.seq (WP.region (V rfl (ov_fieldAddr underlying24 rfl rfl rfl sizeOf3 rfl rfl) (Vl 1 isAgg3 rfl ?_))))))
 obtain ⟨u1, e1, hm⟩ := bind_some hm
 replace e1 := guardO_some e1
 refine ws rfl (os_makeSlice (En := encBool) (z := (.bool false)) (y0 := false) (bytes := 1) underlying107 (by kernel_rfl) rfl (by decide) rfl rfl rfl e1 (fun b3 xs1 rl1 => ?_))
 refine Va rfl (WL.nil (tn ?_))
 obtain ⟨k1, hk1, hm⟩ := joinK_some hm
 refine WP.seq_join (fun g' S' => ∃ (Q13 : List QRow), QOk H N Q13 ∧ Sub [(3, (.slice (some ⟨b2, 0, none⟩) N N)), (1000000007, (.bool false))] g' ∧ (∀ w', S' w' → St w H (NR :: .blk b2 156 (Q13.map qv) :: rowsE Q13) H w') ∧ k1 (Q13.map (·.1)) = some r) ?_ ?_
 ·
  refine WP.seq (WP.region (V rfl (ov_fieldAddr underlying24 rfl rfl rfl sizeOf22 rfl rfl) (Vl 2 isAgg22 rfl (V rfl (ov_len_slice underlying22 rfl rfl) (Vm rfl (WL.nil (tn (WP.block ?_))))))))
  refine WP.weaken (fun _ s => nil_rows N s) ?_
  refine WP.loop (fun m1 g' S' => ∃ (i1 : Int) (l1 : (List Bool)) (ao3 : Option Addr) (cap3 : Nat) (xs2 : List Value) (Q2 : List QRow), RL H encBool l1 xs2 ∧ QOk H N Q2 ∧ Sub [(1, (pB b1 0)), (3, (.slice (some ⟨b2, 0, none⟩) N N)), (4, (.slice ao3 l1.length cap3)), (20, (.slice ao1 p_s.steps.length cap1)), (21, (.int .i64 (p_s.steps.length : Int))), (22, (.int .i64 i1)), (1000000007, (.bool false))] g' ∧ (∀ w', S' w' → St w H (NR :: .row 4 (encBool).size l1.length (.slice ao3 l1.length cap3) xs2 :: .blk b2 156 (Q2.map qv) :: .blk b1 24 [(.int .i64 p_s.actuators), (.slice ao1 p_s.steps.length cap1)] :: rowsE Q2) H w') ∧ cells_loop1 p_s k1 m1 i1 l1 (Q2.map (·.1)) = some r) ((Int.toNat ((p_s.steps.length : Int) - 0) + 1)) ⟨0, (List.replicate (Int.toNat p_s.actuators) false), (some ⟨b3, 0, none⟩), (Int.toNat p_s.actuators), xs1, nilQ N, rl1, nilQ_ok H N, (Sub.all rfl), fun w' s => s, by rw [nilQ_fst, ← Int.toNat_natCast N, ← hN]; exact hm⟩ ?_ ?_
  ·
   rintro g' S' ⟨_, _, _, _, _, _, _, _, _, _, hm⟩
   exact none_some hm
  rintro m1 g' S' ⟨i1, l1, ao3, cap3, xs2, Q2, rl3, rl4, hsub1, hS1, hm⟩
  refine WP.sub hsub1 (WP.weaken hS1 ?_)
  rw [cells_loop1] at hm
  refine WP.seq (WP.region (V rfl (ov_lss rfl rfl rfl) (WL.nil (tn (WP.seq ?_)))))
  refine WP.cond rfl (fun hc3 => ?_) (fun hc3 => ?_)
  ·
   replace hm := ite_t hc3 hm
   refine WP.skip (tn ?_)
   obtain ⟨k2, hk2, hm⟩ := joinK_some hm
   refine WP.seq_join (fun g' S' => ∃ (l11 : (List Bool)) (ao14 : Option Addr) (cap14 : Nat) (xs12 : List Value) (Q12 : List QRow), RL H encBool l11 xs12 ∧ QOk H N Q12 ∧ Sub [(1, (pB b1 0)), (3, (.slice (some ⟨b2, 0, none⟩) N N)), (4, (.slice ao14 l11.length cap14)), (20, (.slice ao1 p_s.steps.length cap1)), (21, (.int .i64 (p_s.steps.length : Int))), (22, (.int .i64 i1)), (1000000007, (.bool false))] g' ∧ (∀ w', S' w' → St w H (NR :: .row 4 (encBool).size l11.length (.slice ao14 l11.length cap14) xs12 :: .blk b2 156 (Q12.map qv) :: .blk b1 24 [(.int .i64 p_s.actuators), (.slice ao1 p_s.steps.length cap1)] :: rowsE Q12) H w') ∧ k2 l11 (Q12.map (·.1)) = some r) ?_ ?_
   ·
    refine WP.block (WP.seq (WP.region ?_))
    obtain ⟨x1, e2, hm⟩ := bind_some hm
    obtain ⟨h4, h5, h6, cs1, h7, h8⟩ := h1.get e2 (by decide)
    obtain ⟨ao5, cap5, rfl, h3, hc4⟩ := h7
    refine V rfl (ov_indexAddr underlying22 sizeOf55 rfl rfl rfl h4 h5 h6) (V rfl (ov_load_elems (vs := [(.slice ao5 x1.strokes.length cap5), (.int .i64 x1.wait)]) isAgg55 sizeOf55 rfl rfl rfl h8 h6) ?_)
    refine ws rfl (os_alloc (cs := [(.slice none 0 0), (.int .i64 0)]) zeroValue55 rfl rfl (fun b4 => ?_))
    refine ws0 rfl (os_store (i := 0) (vs := [(.slice ao5 x1.strokes.length cap5), (.int .i64 x1.wait)]) (cs' := [(.slice ao5 x1.strokes.length cap5), (.int .i64 x1.wait)]) sizeOf55 rfl rfl rfl rfl rfl rfl rfl rfl rfl ?_)
    refine WL.nil (tn (WP.seq (WP.region (V rfl (ov_fieldAddr underlying24 rfl rfl rfl sizeOf3 rfl rfl) (Vl 4 isAgg3 rfl ?_)))))
    obtain ⟨u2, e3, hm⟩ := bind_some hm
    replace e3 := guardO_some e3
    refine ws rfl (os_makeSlice (En := encCell) (z := (.agg #[(.int .u8 0), (.int .u8 0)])) (y0 := (Cell.mk 0 0)) (bytes := 2) underlying156 (by kernel_rfl) rfl (by decide) rfl rfl rfl e3 (fun b5 xs4 rl5 => ?_))
    refine Va rfl (WL.nil (tn ?_))
    obtain ⟨k3, hk3, hm⟩ := joinK_some hm
    refine WP.seq_join (fun g' S' => ∃ (l4 : (List Cell)) (ao7 : Option Addr) (cap7 : Nat) (xs6 : List Value), RL H encCell l4 xs6 ∧ Sub [(1, (pB b1 0)), (3, (.slice (some ⟨b2, 0, none⟩) N N)), (4, (.slice ao3 l1.length cap3)), (6, (pB b4 0)), (7, (.slice ao7 l4.length cap7)), (20, (.slice ao1 p_s.steps.length cap1)), (21, (.int .i64 (p_s.steps.length : Int))), (22, (.int .i64 i1)), (1000000007, (.bool false))] g' ∧ (∀ w', S' w' → St w H (.row 112 (encCell).size l4.length (.slice ao7 l4.length cap7) xs6 :: .blk b4 55 [(.slice ao5 x1.strokes.length cap5), (.int .i64 x1.wait)] :: NR :: .row 4 (encBool).size l1.length (.slice ao3 l1.length cap3) xs2 :: .blk b2 156 (Q2.map qv) :: .blk b1 24 [(.int .i64 p_s.actuators), (.slice ao1 p_s.steps.length cap1)] :: rowsE Q2) H w') ∧ k3 l4 = some r) ?_ ?_
    ·
     refine WP.seq (WP.region (Vm rfl (V rfl (ov_len_slice underlying107 rfl rfl) (Vm rfl (WL.nil (tn (WP.block ?_)))))))
     refine WP.loop (fun m2 g' S' => ∃ (i2 : Int) (l3 : (List Cell)) (ao6 : Option Addr) (cap6 : Nat) (xs5 : List Value), RL H encCell l3 xs5 ∧ Sub [(1, (pB b1 0)), (3, (.slice (some ⟨b2, 0, none⟩) N N)), (4, (.slice ao3 l1.length cap3)), (6, (pB b4 0)), (7, (.slice ao6 l3.length cap6)), (20, (.slice ao1 p_s.steps.length cap1)), (21, (.int .i64 (p_s.steps.length : Int))), (22, (.int .i64 i1)), (29, (.slice ao3 l1.length cap3)), (30, (.int .i64 (l1.length : Int))), (31, (.int .i64 i2)), (1000000007, (.bool false))] g' ∧ (∀ w', S' w' → St w H (.row 112 (encCell).size l3.length (.slice ao6 l3.length cap6) xs5 :: .blk b4 55 [(.slice ao5 x1.strokes.length cap5), (.int .i64 x1.wait)] :: NR :: .row 4 (encBool).size l1.length (.slice ao3 l1.length cap3) xs2 :: .blk b2 156 (Q2.map qv) :: .blk b1 24 [(.int .i64 p_s.actuators), (.slice ao1 p_s.steps.length cap1)] :: rowsE Q2) H w') ∧ cells_loop2 l1 k3 m2 i2 l3 = some r) ((Int.toNat ((l1.length : Int) - 0) + 1)) ⟨0, (List.replicate (Int.toNat p_s.actuators) (Cell.mk 0 0)), (some ⟨b5, 0, none⟩), (Int.toNat p_s.actuators), xs4, rl5, (Sub.all rfl), fun w' s => s, hm⟩ ?_ ?_
     ·
      rintro g' S' ⟨_, _, _, _, _, _, _, _, hm⟩
      exact none_some hm
     rintro m2 g' S' ⟨i2, l3, ao6, cap6, xs5, rl6, hsub2, hS2, hm⟩
     refine WP.sub hsub2 (WP.weaken hS2 ?_)
     rw [cells_loop2] at hm
     refine WP.seq (WP.region (V rfl (ov_lss rfl rfl rfl) (WL.nil (tn (WP.seq ?_)))))
     refine WP.cond rfl (fun hc5 => ?_) (fun hc5 => ?_)
     ·
      replace hm := ite_t hc5 hm
      refine WP.skip (tn (WP.seq (WP.block (WP.seq (WP.region (Vm rfl ?_))))))
      obtain ⟨x2, e4, hm⟩ := bind_some hm
      obtain ⟨h9, h10, h11, cs2, h12, h13⟩ := RL.get rl3 e4
      obtain rfl : cs2 = [(.bool x2)] := h12
      refine V rfl (ov_indexAddr_own (i := 3) underlying107 sizeOf4 rfl rfl rfl rfl h9 h10) (V rfl (ov_load_own (i := 3) isAgg4 rfl rfl rfl (own_pos h9 h10) (elem_cell h13 (off := 0) rfl)) (Va rfl (Va rfl (WL.nil (tn ?_)))))
      refine WP.region_any (S₀ := St w H [.blk b4 55 [(.slice ao5 x1.strokes.length cap5), (.int .i64 x1.wait)], NR, .row 4 (encBool).size l1.length (.slice ao3 l1.length cap3) xs2, .blk b2 156 (Q2.map qv), .blk b1 24 [(.int .i64 p_s.actuators), (.slice ao1 p_s.steps.length cap1)]] H) 13 rfl (by kernel_rfl) (fun w' s => (s.select [1, 2, 3, 4, 5] (by decide) rfl)) (fun _ s => s.drew) ?_
      refine TQ 0 (by kernel_rfl) rfl (ov_move rfl rfl) (TQ 1 (by kernel_rfl) rfl (ov_move rfl rfl) (TQ 2 (by kernel_rfl) rfl (ov_move rfl rfl) (TQ 6 (by kernel_rfl) rfl (ov_move rfl rfl) ?_)))
      refine AL.any (rs := [3]) (by kernel_rfl) (by decide) ?_
      refine ALs.cons (i := 3) rfl (Runs.free rfl) rfl rfl ?_ ?_
      ·
       obtain ⟨r1, e5, hm⟩ := bind_some hm
       refine OQ.step (oq_con (r := (.int .i64 r1)) call111 rfl rfl (fun w' s => ⟨_, (diagram_index_con x2  w' H s.hold hG r1 e5)⟩)) ?_
       refine ⟨fun w' s => (s.select [1, 2, 3, 4, 5] (by decide) rfl), ?_⟩
       obtain ⟨x3, e6, hm⟩ := bind_some hm
       obtain ⟨h14, h15, h16, cs3, h17, h18⟩ := hG.1.1.1.get e6 (by decide)
       obtain rfl : cs3 = [(.int .u8 x3)] := h17
       refine TQ 4 (by kernel_rfl) rfl (ov_indexAddr_globL rfl underlying124 sizeOf5 rfl rfl rfl h14 h15) (TQ 5 (by kernel_rfl) rfl (ov_load_elem (v := (.int .u8 x3)) isAgg5 rfl rfl h18) ?_)
       refine AL.any (rs := [7]) (by kernel_rfl) (by decide) ?_
       refine ALs.cons (i := 7) rfl (Runs.free rfl) rfl rfl ?_ ?_
       ·
        obtain ⟨r2, e7, hm⟩ := bind_some hm
        refine OQ.step (oq_con (r := (.int .i64 r2)) call111 rfl rfl (fun w' s => ⟨_, (diagram_index_con x2  w' H s.hold hG r2 e7)⟩)) ?_
        refine ⟨fun w' s => (s.select [1, 2, 3, 4, 5] (by decide) rfl), ?_⟩
        obtain ⟨x4, e8, hm⟩ := bind_some hm
        obtain ⟨h19, h20, h21, cs4, h22, h23⟩ := hG.1.1.1.get e8 (by decide)
        obtain rfl : cs4 = [(.int .u8 x4)] := h22
        refine TQ 8 (by kernel_rfl) rfl (ov_indexAddr_globL rfl underlying124 sizeOf5 rfl rfl rfl h19 h20) (TQ 9 (by kernel_rfl) rfl (ov_load_elem (v := (.int .u8 x4)) isAgg5 rfl rfl h23) (TQ 10 (by kernel_rfl) rfl (ov_build (r := (.agg #[(.int .u8 x3), (.int .u8 x4)])) rfl rfl (fun _ => by kernel_rfl)) ?_))
        refine AL.any (rs := [11]) (by kernel_rfl) (by decide) ?_
        refine ALs.cons (i := 11) rfl (Runs.free rfl) rfl rfl ?_ ?_
        ·
         obtain ⟨x5, e9, hm⟩ := bind_some hm
         obtain ⟨h24, h25, h26, cs5, h27, h28⟩ := RL.get rl6 e9
         obtain rfl : cs5 = [(.int .u8 x5.first), (.int .u8 x5.second)] := h27
         refine OQ.step (OV.quiet (ov_indexAddr_own (i := 0) underlying156 sizeOf112 rfl rfl rfl rfl h24 h25)) ?_
         refine ⟨fun w' s => (s.select [1, 2, 3, 4, 5] (by decide) rfl), ?_⟩
         refine AL.any (rs := [12]) (by kernel_rfl) (by decide) ?_
         refine ALs.cons0 (i := 12) rfl (Runs.free rfl) rfl ?_ ?_
         ·
          have rl7 := RL.set rl6 (y := (Cell.mk x3 x4)) (off := 0) (vs := [(.int .u8 x3), (.int .u8 x4)]) e9 h28 rfl (Nat.le_of_ble_eq_true rfl)
          have e10 := at?_set (y := (Cell.mk x3 x4)) e9
          refine os_store_own (i := 0) (vs := [(.int .u8 x3), (.int .u8 x4)]) sizeOf112 rfl rfl rfl rfl (own_pos h24 h25) rfl rfl (elem_le (off := 0) h26 (Nat.le_of_ble_eq_true rfl)) rfl ?_
          rw [show l3.length = (List.set l3 (Int.toNat i2) (Cell.mk x3 x4)).length from List.length_set.symm]
          obtain ⟨h29, h30, h31, cs6, h32, h33⟩ := rl7.get e10
          obtain rfl : cs6 = [(.int .u8 x3), (.int .u8 x4)] := h32
          refine ⟨fun w' s => (s.select [1, 2, 3, 4, 5] (by decide) rfl), ?_⟩
          refine AL.done (by kernel_rfl) ?_
          refine bn (tn (WP.region (V rfl (ov_add rfl rfl rfl) (Vm rfl (WL.nil (tn ?_))))))
          exact ⟨(IntKind.wrap .i64 (i2 + 1)), (List.set l3 (Int.toNat i2) (Cell.mk x3 x4)), ao6, cap6, (spl xs5 (Int.toNat i2 * encCell.size + 0) [(.int .u8 x3), (.int .u8 x4)]), rl7, (Sub.all rfl), fun w' s => s, hm⟩
         exact ALs.nil
        exact ALs.nil
       exact ALs.nil
      exact ALs.nil
     replace hm := ite_f hc5 hm
     refine WP.exit (then_exit (then_exit (block_here (tn ?_))))
     exact ⟨l3, ao6, cap6, xs5, rl6, (Sub.all rfl), fun w' s => s, hm⟩
    rintro g' S' ⟨l4, ao7, cap7, xs6, rl8, hsub3, hS3, hm⟩
    refine WP.sub hsub3 (WP.weaken hS3 ?_)
    replace hm := (congrFun hk3 l4).symm.trans hm
    obtain ⟨k4, hk4, hm⟩ := joinK_some hm
    refine WP.seq_join (fun g' S' => ∃ (l7 : (List Bool)) (ao10 : Option Addr) (cap10 : Nat) (xs9 : List Value) (l8 : (List Cell)) (ao11 : Option Addr) (cap11 : Nat) (xs10 : List Value), RL H encBool l7 xs9 ∧ RL H encCell l8 xs10 ∧ Sub [(1, (pB b1 0)), (3, (.slice (some ⟨b2, 0, none⟩) N N)), (4, (.slice ao10 l7.length cap10)), (7, (.slice ao11 l8.length cap11)), (20, (.slice ao1 p_s.steps.length cap1)), (21, (.int .i64 (p_s.steps.length : Int))), (22, (.int .i64 i1)), (1000000007, (.bool false))] g' ∧ (∀ w', S' w' → St w H (.row 112 (encCell).size l8.length (.slice ao11 l8.length cap11) xs10 :: NR :: .row 4 (encBool).size l7.length (.slice ao10 l7.length cap10) xs9 :: .blk b2 156 (Q2.map qv) :: .blk b1 24 [(.int .i64 p_s.actuators), (.slice ao1 p_s.steps.length cap1)] :: rowsE Q2) H w') ∧ k4 l7 l8 = some r) ?_ ?_
    ·
     refine WP.seq (WP.region (V rfl (ov_fieldAddr underlying55 rfl rfl rfl sizeOf53 rfl rfl) (Vl 1 isAgg53 rfl (V rfl (ov_len_slice underlying53 rfl rfl) (Vm rfl (WL.nil (tn (WP.block ?_))))))))
     refine WP.loop (fun m3 g' S' => ∃ (i3 : Int) (l5 : (List Bool)) (ao8 : Option Addr) (cap8 : Nat) (xs7 : List Value) (l6 : (List Cell)) (ao9 : Option Addr) (cap9 : Nat) (xs8 : List Value), RL H encBool l5 xs7 ∧ RL H encCell l6 xs8 ∧ Sub [(1, (pB b1 0)), (3, (.slice (some ⟨b2, 0, none⟩) N N)), (4, (.slice ao8 l5.length cap8)), (7, (.slice ao9 l6.length cap9)), (20, (.slice ao1 p_s.steps.length cap1)), (21, (.int .i64 (p_s.steps.length : Int))), (22, (.int .i64 i1)), (50, (.slice ao5 x1.strokes.length cap5)), (51, (.int .i64 (x1.strokes.length : Int))), (52, (.int .i64 i3)), (1000000007, (.bool false))] g' ∧ (∀ w', S' w' → St w H (.row 112 (encCell).size l6.length (.slice ao9 l6.length cap9) xs8 :: NR :: .row 4 (encBool).size l5.length (.slice ao8 l5.length cap8) xs7 :: .blk b2 156 (Q2.map qv) :: .blk b1 24 [(.int .i64 p_s.actuators), (.slice ao1 p_s.steps.length cap1)] :: rowsE Q2) H w') ∧ cells_loop3 x1 k4 m3 i3 l5 l6 = some r) ((Int.toNat ((x1.strokes.length : Int) - 0) + 1)) ⟨0, l1, ao3, cap3, xs2, l4, ao7, cap7, xs6, rl3, rl8, (Sub.all rfl), fun w' s => (by first | exact s.selectT 5 [0, 2, 3, 4, 5] (by decide) rfl rfl | exact s.selectT 6 [0, 2, 3, 4, 5] (by decide) rfl rfl | exact s.selectT 4 [0, 2, 3, 4, 5] (by decide) rfl rfl | exact s.selectT 7 [0, 2, 3, 4, 5] (by decide) rfl rfl), hm⟩ ?_ ?_
     ·
      rintro g' S' ⟨_, _, _, _, _, _, _, _, _, _, _, _, _, hm⟩
      exact none_some hm
     rintro m3 g' S' ⟨i3, l5, ao8, cap8, xs7, l6, ao9, cap9, xs8, rl9, rl10, hsub4, hS4, hm⟩
     refine WP.sub hsub4 (WP.weaken hS4 ?_)
     rw [cells_loop3] at hm
     refine WP.seq (WP.region (V rfl (ov_lss rfl rfl rfl) (WL.nil (tn (WP.seq ?_)))))
     refine WP.cond rfl (fun hc6 => ?_) (fun hc6 => ?_)
     ·
      replace hm := ite_t hc6 hm
      refine WP.skip (tn (WP.seq (WP.block (WP.seq (WP.region ?_)))))
      obtain ⟨x6, e11, hm⟩ := bind_some hm
      obtain ⟨h34, h35, h36, cs7, h37, h38⟩ := h3.get e11 (by decide)
      obtain rfl : cs7 = [(.int .i64 x6.actuator), (.bool x6.out)] := h37
      refine V rfl (ov_indexAddr underlying53 sizeOf59 rfl rfl rfl h34 h35 h36) (V rfl (ov_load_elems (vs := [(.int .i64 x6.actuator), (.bool x6.out)]) isAgg59 sizeOf59 rfl rfl rfl h38 h36) ?_)
      refine ws rfl (os_alloc (cs := [(.int .i64 0), (.bool false)]) zeroValue59 rfl rfl (fun b6 => ?_))
      refine ws0 rfl (os_store (i := 0) (vs := [(.int .i64 x6.actuator), (.bool x6.out)]) (cs' := [(.int .i64 x6.actuator), (.bool x6.out)]) sizeOf59 rfl rfl rfl rfl rfl rfl rfl rfl rfl ?_)
      refine WL.nil (tn (WP.seq (WP.region (Vm rfl (V rfl (ov_fieldAddr underlying59 rfl rfl rfl sizeOf3 rfl rfl) (Vl 0 isAgg3 rfl (V rfl (ov_fieldAddr underlying59 rfl rfl rfl sizeOf4 rfl rfl) (Vl 0 isAgg4 rfl ?_))))))))
      obtain ⟨x7, e12, hm⟩ := bind_some hm
      obtain ⟨h39, h40, h41, cs8, h42, h43⟩ := RL.get rl9 e12
      obtain rfl : cs8 = [(.bool x7)] := h42
      refine V rfl (ov_indexAddr_own (i := 3) underlying107 sizeOf4 rfl rfl rfl rfl h39 h40) ?_
      have rl11 := RL.set rl9 (y := x6.out) (off := 0) (vs := [(.bool x6.out)]) e12 h43 rfl (Nat.le_of_ble_eq_true rfl)
      have e13 := at?_set (y := x6.out) e12
      refine ws0 rfl (os_store_own (i := 3) (vs := [(.bool x6.out)]) sizeOf4 rfl rfl rfl rfl (own_pos h39 h40) rfl rfl (elem_le (off := 0) h41 (Nat.le_of_ble_eq_true rfl)) rfl ?_)
      rw [show l5.length = (List.set l5 (Int.toNat x6.actuator) x6.out).length from List.length_set.symm]
      obtain ⟨h44, h45, h46, cs9, h47, h48⟩ := rl11.get e13
      obtain rfl : cs9 = [(.bool x6.out)] := h47
      refine WL.nil (tn ?_)
      refine WP.region_any (S₀ := St w H [.blk b6 59 [(.int .i64 x6.actuator), (.bool x6.out)], NR, .row 4 (encBool).size (List.set l5 (Int.toNat x6.actuator) x6.out).length (.slice ao8 (List.set l5 (Int.toNat x6.actuator) x6.out).length cap8) (spl xs7 (Int.toNat x6.actuator * encBool.size + 0) [(.bool x6.out)]), .blk b2 156 (Q2.map qv), .blk b1 24 [(.int .i64 p_s.actuators), (.slice ao1 p_s.steps.length cap1)]] H) 16 rfl (by kernel_rfl) (fun w' s => (s.select [0, 2, 3, 4, 5] (by decide) rfl)) (fun _ s => s.drew) ?_
      refine TQ 0 (by kernel_rfl) rfl (ov_move rfl rfl) (TQ 1 (by kernel_rfl) rfl (ov_fieldAddr underlying59 rfl rfl rfl sizeOf3 rfl rfl) (TQ 2 (by kernel_rfl) rfl (ov_load_box (i := 0) isAgg3 rfl rfl rfl rfl) (TQ 3 (by kernel_rfl) rfl (ov_fieldAddr underlying59 rfl rfl rfl sizeOf4 rfl rfl) (TQ 4 (by kernel_rfl) rfl (ov_load_box (i := 0) isAgg4 rfl rfl rfl rfl) (TQ 8 (by kernel_rfl) rfl (ov_fieldAddr underlying59 rfl rfl rfl sizeOf4 rfl rfl) (TQ 9 (by kernel_rfl) rfl (ov_load_box (i := 0) isAgg4 rfl rfl rfl rfl) ?_))))))
      refine AL.any (rs := [5]) (by kernel_rfl) (by decide) ?_
      refine ALs.cons (i := 5) rfl (Runs.free rfl) rfl rfl ?_ ?_
      ·
       obtain ⟨r3, e14, hm⟩ := bind_some hm
       refine OQ.step (oq_con (r := (.int .i64 r3)) call111 rfl rfl (fun w' s => ⟨_, (diagram_index_con x6.out  w' H s.hold hG r3 e14)⟩)) ?_
       refine ⟨fun w' s => (s.select [0, 2, 3, 4, 5] (by decide) rfl), ?_⟩
       obtain ⟨x8, e15, hm⟩ := bind_some hm
       obtain ⟨h49, h50, h51, cs10, h52, h53⟩ := hG.1.1.2.get e15 (by decide)
       obtain rfl : cs10 = [(.int .u8 x8)] := h52
       refine TQ 6 (by kernel_rfl) rfl (ov_indexAddr_globL rfl underlying124 sizeOf5 rfl rfl rfl h49 h50) (TQ 7 (by kernel_rfl) rfl (ov_load_elem (v := (.int .u8 x8)) isAgg5 rfl rfl h53) ?_)
       refine AL.any (rs := [10]) (by kernel_rfl) (by decide) ?_
       refine ALs.cons (i := 10) rfl (Runs.free rfl) rfl rfl ?_ ?_
       ·
        obtain ⟨r4, e16, hm⟩ := bind_some hm
        refine OQ.step (oq_con (r := (.int .i64 r4)) call111 rfl rfl (fun w' s => ⟨_, (diagram_index_con x6.out  w' H s.hold hG r4 e16)⟩)) ?_
        refine ⟨fun w' s => (s.select [0, 2, 3, 4, 5] (by decide) rfl), ?_⟩
        obtain ⟨x9, e17, hm⟩ := bind_some hm
        obtain ⟨h54, h55, h56, cs11, h57, h58⟩ := hG.1.1.1.get e17 (by decide)
        obtain rfl : cs11 = [(.int .u8 x9)] := h57
        refine TQ 11 (by kernel_rfl) rfl (ov_indexAddr_globL rfl underlying124 sizeOf5 rfl rfl rfl h54 h55) (TQ 12 (by kernel_rfl) rfl (ov_load_elem (v := (.int .u8 x9)) isAgg5 rfl rfl h58) (TQ 13 (by kernel_rfl) rfl (ov_build (r := (.agg #[(.int .u8 x8), (.int .u8 x9)])) rfl rfl (fun _ => by kernel_rfl)) ?_))
        refine AL.any (rs := [14]) (by kernel_rfl) (by decide) ?_
        refine ALs.cons (i := 14) rfl (Runs.free rfl) rfl rfl ?_ ?_
        ·
         obtain ⟨x10, e18, hm⟩ := bind_some hm
         obtain ⟨h59, h60, h61, cs12, h62, h63⟩ := RL.get rl10 e18
         obtain rfl : cs12 = [(.int .u8 x10.first), (.int .u8 x10.second)] := h62
         refine OQ.step (OV.quiet (ov_indexAddr_own (i := 1) underlying156 sizeOf112 rfl rfl rfl rfl h59 h60)) ?_
         refine ⟨fun w' s => (s.select [0, 2, 3, 4, 5] (by decide) rfl), ?_⟩
         refine AL.any (rs := [15]) (by kernel_rfl) (by decide) ?_
         refine ALs.cons0 (i := 15) rfl (Runs.free rfl) rfl ?_ ?_
         ·
          have rl12 := RL.set rl10 (y := (Cell.mk x8 x9)) (off := 0) (vs := [(.int .u8 x8), (.int .u8 x9)]) e18 h63 rfl (Nat.le_of_ble_eq_true rfl)
          have e19 := at?_set (y := (Cell.mk x8 x9)) e18
          refine os_store_own (i := 1) (vs := [(.int .u8 x8), (.int .u8 x9)]) sizeOf112 rfl rfl rfl rfl (own_pos h59 h60) rfl rfl (elem_le (off := 0) h61 (Nat.le_of_ble_eq_true rfl)) rfl ?_
          rw [show l6.length = (List.set l6 (Int.toNat x6.actuator) (Cell.mk x8 x9)).length from List.length_set.symm]
          obtain ⟨h64, h65, h66, cs13, h67, h68⟩ := rl12.get e19
          obtain rfl : cs13 = [(.int .u8 x8), (.int .u8 x9)] := h67
          refine ⟨fun w' s => (s.select [0, 2, 3, 4, 5] (by decide) rfl), ?_⟩
          refine AL.done (by kernel_rfl) ?_
          refine bn (tn (WP.region (V rfl (ov_add rfl rfl rfl) (Vm rfl (WL.nil (tn ?_))))))
          exact ⟨(IntKind.wrap .i64 (i3 + 1)), (List.set l5 (Int.toNat x6.actuator) x6.out), ao8, cap8, (spl xs7 (Int.toNat x6.actuator * encBool.size + 0) [(.bool x6.out)]), (List.set l6 (Int.toNat x6.actuator) (Cell.mk x8 x9)), ao9, cap9, (spl xs8 (Int.toNat x6.actuator * encCell.size + 0) [(.int .u8 x8), (.int .u8 x9)]), rl11, rl12, (Sub.all rfl), fun w' s => (by first | exact s.selectT 5 [1, 2, 3, 4, 5] (by decide) rfl rfl | exact s.selectT 6 [1, 2, 3, 4, 5] (by decide) rfl rfl | exact s.selectT 4 [1, 2, 3, 4, 5] (by decide) rfl rfl | exact s.selectT 7 [1, 2, 3, 4, 5] (by decide) rfl rfl), hm⟩
         exact ALs.nil
        exact ALs.nil
       exact ALs.nil
      exact ALs.nil
     replace hm := ite_f hc6 hm
     refine WP.exit (then_exit (then_exit (block_here (tn ?_))))
     exact ⟨l5, ao8, cap8, xs7, l6, ao9, cap9, xs8, rl9, rl10, (Sub.all rfl), fun w' s => s, hm⟩
    rintro g' S' ⟨l7, ao10, cap10, xs9, l8, ao11, cap11, xs10, rl13, rl14, hsub5, hS5, hm⟩
    refine WP.sub hsub5 (WP.weaken hS5 ?_)
    replace hm := (congrFun (congrFun hk4 l7) l8).symm.trans hm
    obtain ⟨hQ2, hQn⟩ := rl4
    refine WP.seq (WP.region (Vm rfl (V rfl (ov_len_slice underlying154 rfl rfl) (Vm rfl (WL.nil (tn (WP.block ?_)))))))
    refine WP.loop (fun m4 g' S' => ∃ (i4 : Int) (Q9 : List QRow), QOk H N Q9 ∧ Sub [(1, (pB b1 0)), (3, (.slice (some ⟨b2, 0, none⟩) N N)), (4, (.slice ao10 l7.length cap10)), (7, (.slice ao11 l8.length cap11)), (20, (.slice ao1 p_s.steps.length cap1)), (21, (.int .i64 (p_s.steps.length : Int))), (22, (.int .i64 i1)), (79, (.int .i64 (N : Int))), (80, (.int .i64 i4)), (1000000007, (.bool false))] g' ∧ (∀ w', S' w' → St w H (.row 112 (encCell).size l8.length (.slice ao11 l8.length cap11) xs10 :: NR :: .row 4 (encBool).size l7.length (.slice ao10 l7.length cap10) xs9 :: .blk b2 156 (Q9.map qv) :: .blk b1 24 [(.int .i64 p_s.actuators), (.slice ao1 p_s.steps.length cap1)] :: rowsE Q9) H w') ∧ cells_loop4 k2 l8 l7 m4 i4 (Q9.map (·.1)) = some r) ((Int.toNat (((Q2.map (·.1)).length : Int) - 0) + 1)) ⟨0, Q2, ⟨hQ2, hQn⟩, (Sub.all rfl), fun w' s => s, hm⟩ ?_ ?_
    ·
     rintro g' S' ⟨_, _, _, _, _, hm⟩
     exact none_some hm
    rintro m4 g' S' ⟨i4, Q9, ⟨hQ9, hQ9n⟩, hsub6, hS6, hm⟩
    refine WP.sub hsub6 (WP.weaken hS6 ?_)
    rw [cells_loop4] at hm
    have hlen9 : (((Q9.map (·.1)).length : Nat) : Int) = (N : Int) := by rw [List.length_map, hQ9n]
    rw [hlen9] at hm
    refine WP.seq (WP.region (V rfl (ov_lss rfl rfl rfl) (WL.nil (tn (WP.seq ?_)))))
    refine WP.cond rfl (fun hc7 => ?_) (fun hc7 => ?_)
    ·
     replace hm := ite_t hc7 hm
     refine WP.skip (tn (WP.seq (WP.block (WP.seq (WP.region (Vm rfl (Va rfl (WL.nil (tn ?_)))))))))
     obtain ⟨l9, e20, hm⟩ := bind_some hm
     obtain ⟨x11, e20', hm⟩ := bind_some hm
     obtain ⟨l10, e21, hm⟩ := bind_some hm
     obtain ⟨a, q, ha, hq, rfl⟩ := at_map e20
     subst ha
     obtain ⟨l9, ao12, cap12, xs11⟩ := q
     have rl15 : RL H encCell l9 xs11 := hQ9 _ (List.mem_of_getElem? hq)
     have hqv : (Q9.map qv)[a]? = some (.slice ao12 l9.length cap12) := by rw [List.getElem?_map, hq]; rfl
     obtain ⟨h69, h70, h71, cs14, h72, h73⟩ := RL.get rl14 e20'
     obtain rfl : cs14 = [(.int .u8 x11.first), (.int .u8 x11.second)] := h72
     have haN' : a < N := by rw [← hQ9n]; exact (List.getElem?_eq_some_iff.1 hq).1
     have ix : ∀ {o' : Oper} {g' : Frm} {S' : Pred} {x' y' : Operand}, o'.op = .indexAddr 154 x' y' → ev g' x' = some (.slice (some ⟨b2, 0, none⟩) N N) → ev g' y' = some (.int .i64 (a : Int)) → OV prog 99 o' g' S' (pB b2 a) := fun {o' g' S' x' y'} h1 h2 h3 => by
      have := ov_indexAddr_bsl (S := S') (n := 99) (j := a) underlying154 sizeOf156 h1 h2 h3 rfl (by rw [Nat.blt_eq]; exact haN')
      rwa [Nat.zero_add, Nat.mul_one] at this
     refine WP.region_any (S₀ := St w H [.row 112 (encCell).size l8.length (.slice ao11 l8.length cap11) xs10, .row 4 (encBool).size l7.length (.slice ao10 l7.length cap10) xs9, .blk b1 24 [(.int .i64 p_s.actuators), (.slice ao1 p_s.steps.length cap1)]] H) 14 rfl (by kernel_rfl) (fun w' s => (s.select [0, 2, 4] (by decide) rfl)) (fun _ s => s.drew) ?_
     refine TQ 0 (by kernel_rfl) rfl (ov_move rfl rfl) (TQ 1 (by kernel_rfl) rfl (ov_move rfl rfl) (TQ 2 (by kernel_rfl) rfl (ov_move rfl rfl) (TQ 3 (by kernel_rfl) rfl (ov_move rfl rfl) ?_)))
     refine TQ 4 (by kernel_rfl) rfl (ix rfl rfl rfl) (TQ 6 (by kernel_rfl) rfl (ov_move rfl rfl) (TQ 7 (by kernel_rfl) rfl (ov_move rfl rfl) ?_))
     refine TQ 8 (by kernel_rfl) rfl (ov_indexAddr_own (i := 0) underlying156 sizeOf112 rfl rfl rfl rfl h69 h70) (TQ 9 (by kernel_rfl) rfl (ov_load_owns (i := 0) (vs := [(.int .u8 x11.first), (.int .u8 x11.second)]) isAgg112 sizeOf112 rfl rfl rfl (own_pos h69 h70) rfl (fun j u hu => elem_cell h73 hu)) ?_)
     have rl16 : RL H encCell ([x11] : List Cell) [(.int .u8 x11.first), (.int .u8 x11.second)] := RL.cons (cs := [(.int .u8 x11.first), (.int .u8 x11.second)]) (xs := []) rfl (RL.nil _ _)
     refine AL.any (rs := [5, 10]) (by kernel_rfl) (by decide) ?_
     refine ALs.cons (i := 5) rfl (Runs.free rfl) rfl rfl ?_ ?_
     ·
      refine OQ.step (OV.quiet (ov_load_box (i := 3) isAgg156 rfl rfl rfl hqv)) ?_
      refine ⟨fun w' s => (s.select [0, 2, 4] (by decide) rfl), ?_⟩
      refine AL.any (rs := [10]) (by kernel_rfl) (by decide) ?_
      refine ALs.cons (i := 10) rfl (Runs.free rfl) rfl rfl ?_ ?_
      ·
       refine os_buildSlice (cs := [(.int .u8 x11.first), (.int .u8 x11.second)]) (E := 112) (sz := 2) rfl rfl (fun _ => by kernel_rfl) rfl (by decide) (fun b7 => ?_)
       refine ⟨fun w' s => (s.select [1, 3, 5] (by decide) rfl), ?_⟩
       refine AL.any (rs := [11]) (by kernel_rfl) (by decide) ?_
       refine ALs.cons (i := 11) rfl (Runs.free rfl) rfl rfl ?_ ?_
       ·
        refine os_app (i := a + 6) (j := 0) (En := encCell) (xs := xs11) (ys := [(.int .u8 x11.first), (.int .u8 x11.second)]) underlying156 (by kernel_rfl : (prog.info? 112).map (fun i => (i.zero, i.size, i.bytes)) = some (some (.agg #[(.int .u8 0), (.int .u8 0)]), (encCell).size, 2)) rfl (by decide) rfl rfl rfl (rows_at hq) rfl rfl rl15 rl16 e21 (fun ao13 cap13 rl17 => ?_)
        refine ⟨fun w' s => (s.select [1, 3, 5] (by decide) rfl), ?_⟩
        refine TQ 12 (by kernel_rfl) rfl (ix rfl rfl rfl) ?_
        refine AL.any (rs := [13]) (by kernel_rfl) (by decide) ?_
        refine ALs.cons0 (i := 13) rfl (Runs.free rfl) rfl ?_ ?_
        ·
         refine os_store (i := 4) (vs := [(.slice ao13 (l9 ++ ([x11] : List Cell)).length cap13)]) (cs' := (Q9.set a (l9 ++ ([x11] : List Cell), ao13, cap13, xs11 ++ ([(.int .u8 x11.first), (.int .u8 x11.second)] : List Value))).map qv) sizeOf156 rfl rfl rfl rfl rfl rfl (by rw [List.length_map, hQ9n, Nat.ble_eq]; exact haN') rfl (spl_set (q := (l9 ++ ([x11] : List Cell), ao13, cap13, xs11 ++ ([(.int .u8 x11.first), (.int .u8 x11.second)] : List Value))) (by rw [hQ9n]; exact haN')) ?_
         refine ⟨fun w' s => (s.select [1, 3, 5] (by decide) rfl), ?_⟩
         refine AL.done (by kernel_rfl) ?_
         refine bn (tn (WP.region (V rfl (ov_add rfl rfl rfl) (Vm rfl (WL.nil (tn ?_))))))
         exact ⟨(IntKind.wrap .i64 ((a : Int) + 1)), (Q9.set a (l9 ++ ([x11] : List Cell), ao13, cap13, xs11 ++ ([(.int .u8 x11.first), (.int .u8 x11.second)] : List Value))), QOk.set ⟨hQ9, hQ9n⟩ a rl17, (Sub.all rfl), fun w' s => (rows_fin (q' := (l9 ++ ([x11] : List Cell), ao13, cap13, xs11 ++ ([(.int .u8 x11.first), (.int .u8 x11.second)] : List Value))) s), by rw [map_set_fst]; exact hm⟩
        exact ALs.nil
       exact ALs.nil
      exact ALs.nil
     refine ALs.cons (i := 10) rfl (Runs.free rfl) rfl rfl ?_ ?_
     ·
      refine os_buildSlice (cs := [(.int .u8 x11.first), (.int .u8 x11.second)]) (E := 112) (sz := 2) rfl rfl (fun _ => by kernel_rfl) rfl (by decide) (fun b7 => ?_)
      refine ⟨fun w' s => (s.select [1, 3, 5] (by decide) rfl), ?_⟩
      refine AL.any (rs := [5]) (by kernel_rfl) (by decide) ?_
      refine ALs.cons (i := 5) rfl (Runs.free rfl) rfl rfl ?_ ?_
      ·
       refine OQ.step (OV.quiet (ov_load_box (i := 4) isAgg156 rfl rfl rfl hqv)) ?_
       refine ⟨fun w' s => (s.select [1, 3, 5] (by decide) rfl), ?_⟩
       refine AL.any (rs := [11]) (by kernel_rfl) (by decide) ?_
       refine ALs.cons (i := 11) rfl (Runs.free rfl) rfl rfl ?_ ?_
       ·
        refine os_app (i := a + 6) (j := 0) (En := encCell) (xs := xs11) (ys := [(.int .u8 x11.first), (.int .u8 x11.second)]) underlying156 (by kernel_rfl : (prog.info? 112).map (fun i => (i.zero, i.size, i.bytes)) = some (some (.agg #[(.int .u8 0), (.int .u8 0)]), (encCell).size, 2)) rfl (by decide) rfl rfl rfl (rows_at hq) rfl rfl rl15 rl16 e21 (fun ao13 cap13 rl17 => ?_)
        refine ⟨fun w' s => (s.select [1, 3, 5] (by decide) rfl), ?_⟩
        refine TQ 12 (by kernel_rfl) rfl (ix rfl rfl rfl) ?_
        refine AL.any (rs := [13]) (by kernel_rfl) (by decide) ?_
        refine ALs.cons0 (i := 13) rfl (Runs.free rfl) rfl ?_ ?_
        ·
         refine os_store (i := 4) (vs := [(.slice ao13 (l9 ++ ([x11] : List Cell)).length cap13)]) (cs' := (Q9.set a (l9 ++ ([x11] : List Cell), ao13, cap13, xs11 ++ ([(.int .u8 x11.first), (.int .u8 x11.second)] : List Value))).map qv) sizeOf156 rfl rfl rfl rfl rfl rfl (by rw [List.length_map, hQ9n, Nat.ble_eq]; exact haN') rfl (spl_set (q := (l9 ++ ([x11] : List Cell), ao13, cap13, xs11 ++ ([(.int .u8 x11.first), (.int .u8 x11.second)] : List Value))) (by rw [hQ9n]; exact haN')) ?_
         refine ⟨fun w' s => (s.select [1, 3, 5] (by decide) rfl), ?_⟩
         refine AL.done (by kernel_rfl) ?_
         refine bn (tn (WP.region (V rfl (ov_add rfl rfl rfl) (Vm rfl (WL.nil (tn ?_))))))
         exact ⟨(IntKind.wrap .i64 ((a : Int) + 1)), (Q9.set a (l9 ++ ([x11] : List Cell), ao13, cap13, xs11 ++ ([(.int .u8 x11.first), (.int .u8 x11.second)] : List Value))), QOk.set ⟨hQ9, hQ9n⟩ a rl17, (Sub.all rfl), fun w' s => (rows_fin (q' := (l9 ++ ([x11] : List Cell), ao13, cap13, xs11 ++ ([(.int .u8 x11.first), (.int .u8 x11.second)] : List Value))) s), by rw [map_set_fst]; exact hm⟩
        exact ALs.nil
       exact ALs.nil
      exact ALs.nil
     exact ALs.nil
    replace hm := ite_f hc7 hm
    refine WP.exit (then_exit (then_exit (block_here (bn (tn ?_)))))
    exact ⟨l7, ao10, cap10, xs9, Q9, rl13, ⟨hQ9, hQ9n⟩, (Sub.all rfl), fun w' s => (s.selectT 5 [1, 2, 3, 4] (by decide) rfl rfl), hm⟩
   rintro g' S' ⟨l11, ao14, cap14, xs12, Q12, rl18, rl19, hsub7, hS7, hm⟩
   refine WP.sub hsub7 (WP.weaken hS7 ?_)
   replace hm := (congrFun (congrFun hk2 l11) (Q12.map (·.1))).symm.trans hm
   refine WP.region (V rfl (ov_add rfl rfl rfl) (Vm rfl (WL.nil (tn ?_))))
   exact ⟨(IntKind.wrap .i64 (i1 + 1)), l11, ao14, cap14, xs12, Q12, rl18, rl19, (Sub.all rfl), fun w' s => s, hm⟩
  replace hm := ite_f hc3 hm
  refine WP.exit (then_exit (then_exit (block_here (tn ?_))))
  exact ⟨Q2, rl4, (Sub.all rfl), fun w' s => (by first | exact s.selectT 5 [0, 2] (by decide) rfl rfl | exact s.selectT 6 [0, 2] (by decide) rfl rfl | exact s.selectT 4 [0, 2] (by decide) rfl rfl | exact s.selectT 7 [0, 2] (by decide) rfl rfl), hm⟩
 rintro g' S' ⟨Q13, rl20, hsub8, hS8, hm⟩
 refine WP.sub hsub8 (WP.weaken hS8 ?_)
 replace hm := (congrFun hk1 (Q13.map (·.1))).symm.trans hm
 obtain ⟨hQ13, hQ13n⟩ := rl20
 refine WP.seq (WP.region (Vm rfl ?_))
 refine WL.weaken (S₁ := fun w' => ∃ H1, Le H H1 ∧ RL H1 (encSl encCell) (Q13.map (·.1)) (Q13.map qv) ∧ St w H [.blk b2 156 (Q13.map qv)] H1 w') (fun w' s => rows_held hQ13 s) ?_
 refine WL.ex fun H1 => WL.pre fun hle1 => WL.pre fun rl21 => ?_
 refine WL.weaken (fun _ s => s.blk_rowN (N := N) (sz := 1) (by rw [List.length_map, hQ13n, Nat.mul_one]) (Nat.le_trans hNb (by decide))) ?_
 refine Va rfl (WL.nil (tn (WP.ret ?_)))
 obtain rfl := Option.some.inj hm
 refine retQ_ret results85 (Res.tmp rfl Res.nil) rfl (fun w' s => ⟨s.below, ?_⟩)
 have hl : (Q13.map (·.1)).length = N := by rw [List.length_map, hQ13n]
 obtain ⟨h75, hc10⟩ := s.ret_row (i := 0) (l := Q13.map (·.1)) (by rw [hl]; rfl) rl21
 refine ⟨(some ⟨b2, 0, none⟩), N, ?_, h75, hc10⟩
 show Value.slice (some ⟨b2, 0, none⟩) N N = .slice (some ⟨b2, 0, none⟩) (Q13.map (·.1)).length N
 rw [hl]
end Go.Proofs.YtkgijoddkibapaaGreatDoor.W
