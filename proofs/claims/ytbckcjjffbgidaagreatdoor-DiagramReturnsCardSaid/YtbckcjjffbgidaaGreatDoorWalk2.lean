/- The walks. Written by our own program gen.py; Lean checks it. -/
import Derived.Test.YtbckcjjffbgidaaGreatDoorPlain
import Derived.Test.YtbckcjjffbgidaaGreatDoorEqs
import Derived.Test.YtbckcjjffbgidaaGreatDoorProg
import Derived.Test.YtbckcjjffbgidaaGreatDoorExt
import Derived.Test.YtbckcjjffbgidaaGreatDoorBuild
import Derived.Test.YtbckcjjffbgidaaGreatDoorClone
import Derived.Test.YtbckcjjffbgidaaGreatDoorWalk0
import Derived.Test.YtbckcjjffbgidaaGreatDoorWalk1
set_option linter.unusedVariables false
set_option maxRecDepth 100000
set_option maxHeartbeats 4000000
namespace Go.Proofs.YtbckcjjffbgidaaGreatDoor.W
open Go Go.RowKit Go.Proofs.Tryz
theorem diagram_cells5_con (p_s : Sequence) (ao1 : Option Addr) (cap1 : Nat) (w : World) (H : Heap) (hH : Le H (hp w)) (h1 : SL H encStep ao1 p_s.steps) (hc1 : p_s.steps.length ≤ cap1) (hG : Glob H) (hn : (p_s.actuators == 5) = true) (r : (List (List Cell))) (hm : diagram_cells5 p_s = some r) :
  Con prog 43 [(.agg #[(.int .i64 p_s.actuators), (.slice ao1 p_s.steps.length cap1)])] w H (fun v H' => ∃ (ao2 : Option Addr) (cap2 : Nat), v = (.slice ao2 r.length cap2) ∧ SL H' (encSl encCell) ao2 r ∧ r.length ≤ cap2) := by
 unfold diagram_cells5 at hm
 refine con_of hH func43 rfl 99 ntmps43 rfl ?_
 refine WP.seq (WP.region ?_)
 refine ws rfl (os_box (cs := [(.int .i64 p_s.actuators), (.slice ao1 p_s.steps.length cap1)]) rfl rfl rfl (fun b1 => ?_))
 refine Va rfl (WL.nil (tn (WP.seq (WP.region (V rfl (ov_fieldAddr underlying24 rfl rfl rfl sizeOf3 rfl rfl) (Vl 0 isAgg3 rfl ?_))))))
 refine ws rfl (os_makeSlice_n (N := 5) (sz := 1) (bytes := 24) (z := (.slice none 0 0)) (cs := [(.slice none 0 0), (.slice none 0 0), (.slice none 0 0), (.slice none 0 0), (.slice none 0 0)]) underlying76 (by kernel_rfl) (by kernel_rfl) rfl rfl rfl (eq_of_beq hn) (by decide) (by decide) (fun b2 => ?_))
 refine Va rfl (WL.nil (tn (WP.seq (WP.region (V rfl (ov_fieldAddr underlying24 rfl rfl rfl sizeOf3 rfl rfl) (Vl 1 isAgg3 rfl ?_))))))
 obtain ⟨u1, e1, hm⟩ := bind_some hm
 replace e1 := guardO_some e1
 refine ws rfl (os_makeSlice (En := encBool) (z := (.bool false)) (y0 := false) (bytes := 1) underlying49 (by kernel_rfl) rfl (by decide) rfl rfl rfl e1 (fun b3 xs1 rl1 => ?_))
 refine Va rfl (WL.nil (tn ?_))
 obtain ⟨k1, hk1, hm⟩ := joinK_some hm
 refine WP.seq_join (fun g' S' => ∃ (l29 : (List Cell)) (ao32 : Option Addr) (cap32 : Nat) (xs26 : List Value) (l30 : (List Cell)) (ao33 : Option Addr) (cap33 : Nat) (xs27 : List Value) (l31 : (List Cell)) (ao34 : Option Addr) (cap34 : Nat) (xs28 : List Value) (l32 : (List Cell)) (ao35 : Option Addr) (cap35 : Nat) (xs29 : List Value) (l33 : (List Cell)) (ao36 : Option Addr) (cap36 : Nat) (xs30 : List Value), RL H encCell l29 xs26 ∧ RL H encCell l30 xs27 ∧ RL H encCell l31 xs28 ∧ RL H encCell l32 xs29 ∧ RL H encCell l33 xs30 ∧ Sub [(3, (.slice (some ⟨b2, 0, none⟩) 5 5)), (1000000007, (.bool false))] g' ∧ (∀ w', S' w' → St w H [.row 80 (encCell).size l33.length (.slice ao36 l33.length cap36) xs30, .row 80 (encCell).size l32.length (.slice ao35 l32.length cap35) xs29, .row 80 (encCell).size l31.length (.slice ao34 l31.length cap34) xs28, .row 80 (encCell).size l30.length (.slice ao33 l30.length cap33) xs27, .row 80 (encCell).size l29.length (.slice ao32 l29.length cap32) xs26, .blk b2 78 [(.slice ao32 l29.length cap32), (.slice ao33 l30.length cap33), (.slice ao34 l31.length cap34), (.slice ao35 l32.length cap35), (.slice ao36 l33.length cap36)]] H w') ∧ k1 l29 l30 l31 l32 l33 = some r) ?_ ?_
 ·
  refine WP.seq (WP.region (V rfl (ov_fieldAddr underlying24 rfl rfl rfl sizeOf22 rfl rfl) (Vl 2 isAgg22 rfl (V rfl (ov_len_slice underlying22 rfl rfl) (Vm rfl (WL.nil (tn (WP.block ?_))))))))
  have rl2 := RL.nil (α := Cell) H encCell
  refine WP.weaken (fun _ s => s.nilrow 80 (encCell).size) ?_
  have rl3 := RL.nil (α := Cell) H encCell
  refine WP.weaken (fun _ s => s.nilrow 80 (encCell).size) ?_
  have rl4 := RL.nil (α := Cell) H encCell
  refine WP.weaken (fun _ s => s.nilrow 80 (encCell).size) ?_
  have rl5 := RL.nil (α := Cell) H encCell
  refine WP.weaken (fun _ s => s.nilrow 80 (encCell).size) ?_
  have rl6 := RL.nil (α := Cell) H encCell
  refine WP.weaken (fun _ s => s.nilrow 80 (encCell).size) ?_
  refine WP.loop (fun m1 g' S' => ∃ (i1 : Int) (l1 : (List Bool)) (ao3 : Option Addr) (cap3 : Nat) (xs2 : List Value) (l2 : (List Cell)) (ao4 : Option Addr) (cap4 : Nat) (xs3 : List Value) (l3 : (List Cell)) (ao5 : Option Addr) (cap5 : Nat) (xs4 : List Value) (l4 : (List Cell)) (ao6 : Option Addr) (cap6 : Nat) (xs5 : List Value) (l5 : (List Cell)) (ao7 : Option Addr) (cap7 : Nat) (xs6 : List Value) (l6 : (List Cell)) (ao8 : Option Addr) (cap8 : Nat) (xs7 : List Value), RL H encBool l1 xs2 ∧ RL H encCell l2 xs3 ∧ RL H encCell l3 xs4 ∧ RL H encCell l4 xs5 ∧ RL H encCell l5 xs6 ∧ RL H encCell l6 xs7 ∧ Sub [(1, (pB b1 0)), (3, (.slice (some ⟨b2, 0, none⟩) 5 5)), (4, (.slice ao3 l1.length cap3)), (20, (.slice ao1 p_s.steps.length cap1)), (21, (.int .i64 (p_s.steps.length : Int))), (22, (.int .i64 i1)), (1000000007, (.bool false))] g' ∧ (∀ w', S' w' → St w H [.row 80 (encCell).size l6.length (.slice ao8 l6.length cap8) xs7, .row 80 (encCell).size l5.length (.slice ao7 l5.length cap7) xs6, .row 80 (encCell).size l4.length (.slice ao6 l4.length cap6) xs5, .row 80 (encCell).size l3.length (.slice ao5 l3.length cap5) xs4, .row 80 (encCell).size l2.length (.slice ao4 l2.length cap4) xs3, .row 4 (encBool).size l1.length (.slice ao3 l1.length cap3) xs2, .blk b2 78 [(.slice ao4 l2.length cap4), (.slice ao5 l3.length cap5), (.slice ao6 l4.length cap6), (.slice ao7 l5.length cap7), (.slice ao8 l6.length cap8)], .blk b1 24 [(.int .i64 p_s.actuators), (.slice ao1 p_s.steps.length cap1)]] H w') ∧ diagram_cells5_loop1 p_s k1 m1 i1 l1 l2 l3 l4 l5 l6 = some r) ((Int.toNat ((p_s.steps.length : Int) - 0) + 1)) ⟨0, (List.replicate (Int.toNat p_s.actuators) false), (some ⟨b3, 0, none⟩), (Int.toNat p_s.actuators), xs1, ([] : List Cell), none, 0, [], ([] : List Cell), none, 0, [], ([] : List Cell), none, 0, [], ([] : List Cell), none, 0, [], ([] : List Cell), none, 0, [], rl1, rl2, rl3, rl4, rl5, rl6, (Sub.all rfl), fun w' s => s, hm⟩ ?_ ?_
  ·
   rintro g' S' ⟨_, _, _, _, _, _, _, _, _, _, _, _, _, _, _, _, _, _, _, _, _, _, _, _, _, _, _, _, _, _, _, _, _, hm⟩
   exact none_some hm
  rintro m1 g' S' ⟨i1, l1, ao3, cap3, xs2, l2, ao4, cap4, xs3, l3, ao5, cap5, xs4, l4, ao6, cap6, xs5, l5, ao7, cap7, xs6, l6, ao8, cap8, xs7, rl7, rl8, rl9, rl10, rl11, rl12, hsub1, hS1, hm⟩
  refine WP.sub hsub1 (WP.weaken hS1 ?_)
  rw [diagram_cells5_loop1] at hm
  refine WP.seq (WP.region (V rfl (ov_lss rfl rfl rfl) (WL.nil (tn (WP.seq ?_)))))
  refine WP.cond rfl (fun hc3 => ?_) (fun hc3 => ?_)
  ·
   replace hm := ite_t hc3 hm
   refine WP.skip (tn ?_)
   obtain ⟨k2, hk2, hm⟩ := joinK_some hm
   refine WP.seq_join (fun g' S' => ∃ (l23 : (List Bool)) (ao26 : Option Addr) (cap26 : Nat) (xs20 : List Value) (l24 : (List Cell)) (ao27 : Option Addr) (cap27 : Nat) (xs21 : List Value) (l25 : (List Cell)) (ao28 : Option Addr) (cap28 : Nat) (xs22 : List Value) (l26 : (List Cell)) (ao29 : Option Addr) (cap29 : Nat) (xs23 : List Value) (l27 : (List Cell)) (ao30 : Option Addr) (cap30 : Nat) (xs24 : List Value) (l28 : (List Cell)) (ao31 : Option Addr) (cap31 : Nat) (xs25 : List Value), RL H encBool l23 xs20 ∧ RL H encCell l24 xs21 ∧ RL H encCell l25 xs22 ∧ RL H encCell l26 xs23 ∧ RL H encCell l27 xs24 ∧ RL H encCell l28 xs25 ∧ Sub [(1, (pB b1 0)), (3, (.slice (some ⟨b2, 0, none⟩) 5 5)), (4, (.slice ao26 l23.length cap26)), (20, (.slice ao1 p_s.steps.length cap1)), (21, (.int .i64 (p_s.steps.length : Int))), (22, (.int .i64 i1)), (1000000007, (.bool false))] g' ∧ (∀ w', S' w' → St w H [.row 80 (encCell).size l28.length (.slice ao31 l28.length cap31) xs25, .row 80 (encCell).size l27.length (.slice ao30 l27.length cap30) xs24, .row 80 (encCell).size l26.length (.slice ao29 l26.length cap29) xs23, .row 80 (encCell).size l25.length (.slice ao28 l25.length cap28) xs22, .row 80 (encCell).size l24.length (.slice ao27 l24.length cap27) xs21, .row 4 (encBool).size l23.length (.slice ao26 l23.length cap26) xs20, .blk b2 78 [(.slice ao27 l24.length cap27), (.slice ao28 l25.length cap28), (.slice ao29 l26.length cap29), (.slice ao30 l27.length cap30), (.slice ao31 l28.length cap31)], .blk b1 24 [(.int .i64 p_s.actuators), (.slice ao1 p_s.steps.length cap1)]] H w') ∧ k2 l23 l24 l25 l26 l27 l28 = some r) ?_ ?_
   ·
    refine WP.block (WP.seq (WP.region ?_))
    obtain ⟨x1, e2, hm⟩ := bind_some hm
    obtain ⟨h4, h5, h6, cs1, h7, h8⟩ := h1.get e2 (by decide)
    obtain ⟨ao9, cap9, rfl, h3, hc4⟩ := h7
    refine V rfl (ov_indexAddr underlying22 sizeOf45 rfl rfl rfl h4 h5 h6) (V rfl (ov_load_elems (vs := [(.slice ao9 x1.strokes.length cap9), (.int .i64 x1.wait)]) isAgg45 sizeOf45 rfl rfl rfl h8 h6) ?_)
    refine ws rfl (os_alloc (cs := [(.slice none 0 0), (.int .i64 0)]) zeroValue45 rfl rfl (fun b4 => ?_))
    refine ws0 rfl (os_store (i := 0) (vs := [(.slice ao9 x1.strokes.length cap9), (.int .i64 x1.wait)]) (cs' := [(.slice ao9 x1.strokes.length cap9), (.int .i64 x1.wait)]) sizeOf45 rfl rfl rfl rfl rfl rfl rfl rfl rfl ?_)
    refine WL.nil (tn (WP.seq (WP.region (V rfl (ov_fieldAddr underlying24 rfl rfl rfl sizeOf3 rfl rfl) (Vl 8 isAgg3 rfl ?_)))))
    obtain ⟨u2, e3, hm⟩ := bind_some hm
    replace e3 := guardO_some e3
    refine ws rfl (os_makeSlice (En := encCell) (z := (.agg #[(.int .u8 0), (.int .u8 0)])) (y0 := (Cell.mk 0 0)) (bytes := 2) underlying78 (by kernel_rfl) rfl (by decide) rfl rfl rfl e3 (fun b5 xs8 rl13 => ?_))
    refine Va rfl (WL.nil (tn ?_))
    obtain ⟨k3, hk3, hm⟩ := joinK_some hm
    refine WP.seq_join (fun g' S' => ∃ (l8 : (List Cell)) (ao11 : Option Addr) (cap11 : Nat) (xs10 : List Value), RL H encCell l8 xs10 ∧ Sub [(1, (pB b1 0)), (3, (.slice (some ⟨b2, 0, none⟩) 5 5)), (4, (.slice ao3 l1.length cap3)), (6, (pB b4 0)), (7, (.slice ao11 l8.length cap11)), (20, (.slice ao1 p_s.steps.length cap1)), (21, (.int .i64 (p_s.steps.length : Int))), (22, (.int .i64 i1)), (1000000007, (.bool false))] g' ∧ (∀ w', S' w' → St w H [.row 80 (encCell).size l8.length (.slice ao11 l8.length cap11) xs10, .blk b4 45 [(.slice ao9 x1.strokes.length cap9), (.int .i64 x1.wait)], .row 80 (encCell).size l6.length (.slice ao8 l6.length cap8) xs7, .row 80 (encCell).size l5.length (.slice ao7 l5.length cap7) xs6, .row 80 (encCell).size l4.length (.slice ao6 l4.length cap6) xs5, .row 80 (encCell).size l3.length (.slice ao5 l3.length cap5) xs4, .row 80 (encCell).size l2.length (.slice ao4 l2.length cap4) xs3, .row 4 (encBool).size l1.length (.slice ao3 l1.length cap3) xs2, .blk b2 78 [(.slice ao4 l2.length cap4), (.slice ao5 l3.length cap5), (.slice ao6 l4.length cap6), (.slice ao7 l5.length cap7), (.slice ao8 l6.length cap8)], .blk b1 24 [(.int .i64 p_s.actuators), (.slice ao1 p_s.steps.length cap1)]] H w') ∧ k3 l8 = some r) ?_ ?_
    ·
     refine WP.seq (WP.region (Vm rfl (V rfl (ov_len_slice underlying49 rfl rfl) (Vm rfl (WL.nil (tn (WP.block ?_)))))))
     refine WP.loop (fun m2 g' S' => ∃ (i2 : Int) (l7 : (List Cell)) (ao10 : Option Addr) (cap10 : Nat) (xs9 : List Value), RL H encCell l7 xs9 ∧ Sub [(1, (pB b1 0)), (3, (.slice (some ⟨b2, 0, none⟩) 5 5)), (4, (.slice ao3 l1.length cap3)), (6, (pB b4 0)), (7, (.slice ao10 l7.length cap10)), (20, (.slice ao1 p_s.steps.length cap1)), (21, (.int .i64 (p_s.steps.length : Int))), (22, (.int .i64 i1)), (29, (.slice ao3 l1.length cap3)), (30, (.int .i64 (l1.length : Int))), (31, (.int .i64 i2)), (1000000007, (.bool false))] g' ∧ (∀ w', S' w' → St w H [.row 80 (encCell).size l7.length (.slice ao10 l7.length cap10) xs9, .blk b4 45 [(.slice ao9 x1.strokes.length cap9), (.int .i64 x1.wait)], .row 80 (encCell).size l6.length (.slice ao8 l6.length cap8) xs7, .row 80 (encCell).size l5.length (.slice ao7 l5.length cap7) xs6, .row 80 (encCell).size l4.length (.slice ao6 l4.length cap6) xs5, .row 80 (encCell).size l3.length (.slice ao5 l3.length cap5) xs4, .row 80 (encCell).size l2.length (.slice ao4 l2.length cap4) xs3, .row 4 (encBool).size l1.length (.slice ao3 l1.length cap3) xs2, .blk b2 78 [(.slice ao4 l2.length cap4), (.slice ao5 l3.length cap5), (.slice ao6 l4.length cap6), (.slice ao7 l5.length cap7), (.slice ao8 l6.length cap8)], .blk b1 24 [(.int .i64 p_s.actuators), (.slice ao1 p_s.steps.length cap1)]] H w') ∧ diagram_cells1_loop2 l1 k3 m2 i2 l7 = some r) ((Int.toNat ((l1.length : Int) - 0) + 1)) ⟨0, (List.replicate (Int.toNat p_s.actuators) (Cell.mk 0 0)), (some ⟨b5, 0, none⟩), (Int.toNat p_s.actuators), xs8, rl13, (Sub.all rfl), fun w' s => s, hm⟩ ?_ ?_
     ·
      rintro g' S' ⟨_, _, _, _, _, _, _, _, hm⟩
      exact none_some hm
     rintro m2 g' S' ⟨i2, l7, ao10, cap10, xs9, rl14, hsub2, hS2, hm⟩
     refine WP.sub hsub2 (WP.weaken hS2 ?_)
     rw [diagram_cells1_loop2] at hm
     refine WP.seq (WP.region (V rfl (ov_lss rfl rfl rfl) (WL.nil (tn (WP.seq ?_)))))
     refine WP.cond rfl (fun hc5 => ?_) (fun hc5 => ?_)
     ·
      replace hm := ite_t hc5 hm
      refine WP.skip (tn (WP.seq (WP.block (WP.seq (WP.region (Vm rfl ?_))))))
      obtain ⟨x2, e4, hm⟩ := bind_some hm
      obtain ⟨h9, h10, h11, cs2, h12, h13⟩ := RL.get rl7 e4
      obtain rfl : cs2 = [(.bool x2)] := h12
      refine V rfl (ov_indexAddr_own (i := 7) underlying49 sizeOf4 rfl rfl rfl rfl h9 h10) (V rfl (ov_load_own (i := 7) isAgg4 rfl rfl rfl (own_pos h9 h10) (elem_cell h13 (off := 0) rfl)) (Va rfl (Va rfl (WL.nil (tn ?_)))))
      refine WP.region_any (S₀ := St w H [.blk b4 45 [(.slice ao9 x1.strokes.length cap9), (.int .i64 x1.wait)], .row 80 (encCell).size l6.length (.slice ao8 l6.length cap8) xs7, .row 80 (encCell).size l5.length (.slice ao7 l5.length cap7) xs6, .row 80 (encCell).size l4.length (.slice ao6 l4.length cap6) xs5, .row 80 (encCell).size l3.length (.slice ao5 l3.length cap5) xs4, .row 80 (encCell).size l2.length (.slice ao4 l2.length cap4) xs3, .row 4 (encBool).size l1.length (.slice ao3 l1.length cap3) xs2, .blk b2 78 [(.slice ao4 l2.length cap4), (.slice ao5 l3.length cap5), (.slice ao6 l4.length cap6), (.slice ao7 l5.length cap7), (.slice ao8 l6.length cap8)], .blk b1 24 [(.int .i64 p_s.actuators), (.slice ao1 p_s.steps.length cap1)]] H) 13 rfl (by kernel_rfl) (fun w' s => (s.select [1, 2, 3, 4, 5, 6, 7, 8, 9] (by decide) rfl)) (fun _ s => s.drew) ?_
      refine TQ 0 (by kernel_rfl) rfl (ov_move rfl rfl) (TQ 1 (by kernel_rfl) rfl (ov_move rfl rfl) (TQ 2 (by kernel_rfl) rfl (ov_move rfl rfl) (TQ 6 (by kernel_rfl) rfl (ov_move rfl rfl) ?_)))
      refine AL.any (rs := [3]) (by kernel_rfl) (by decide) ?_
      refine ALs.cons (i := 3) rfl (Runs.free rfl) rfl rfl ?_ ?_
      ·
       obtain ⟨r1, e5, hm⟩ := bind_some hm
       refine OQ.step (oq_con (r := (.int .i64 r1)) call87 rfl rfl (fun w' s => ⟨_, (diagram_index_con x2  w' H s.hold hG r1 e5)⟩)) ?_
       refine ⟨fun w' s => (s.select [1, 2, 3, 4, 5, 6, 7, 8, 9] (by decide) rfl), ?_⟩
       obtain ⟨x3, e6, hm⟩ := bind_some hm
       obtain ⟨h14, h15, h16, cs3, h17, h18⟩ := hG.1.1.1.get e6 (by decide)
       obtain rfl : cs3 = [(.int .u8 x3)] := h17
       refine TQ 4 (by kernel_rfl) rfl (ov_indexAddr_globL rfl underlying84 sizeOf5 rfl rfl rfl h14 h15) (TQ 5 (by kernel_rfl) rfl (ov_load_elem (v := (.int .u8 x3)) isAgg5 rfl rfl h18) ?_)
       refine AL.any (rs := [7]) (by kernel_rfl) (by decide) ?_
       refine ALs.cons (i := 7) rfl (Runs.free rfl) rfl rfl ?_ ?_
       ·
        obtain ⟨r2, e7, hm⟩ := bind_some hm
        refine OQ.step (oq_con (r := (.int .i64 r2)) call87 rfl rfl (fun w' s => ⟨_, (diagram_index_con x2  w' H s.hold hG r2 e7)⟩)) ?_
        refine ⟨fun w' s => (s.select [1, 2, 3, 4, 5, 6, 7, 8, 9] (by decide) rfl), ?_⟩
        obtain ⟨x4, e8, hm⟩ := bind_some hm
        obtain ⟨h19, h20, h21, cs4, h22, h23⟩ := hG.1.1.1.get e8 (by decide)
        obtain rfl : cs4 = [(.int .u8 x4)] := h22
        refine TQ 8 (by kernel_rfl) rfl (ov_indexAddr_globL rfl underlying84 sizeOf5 rfl rfl rfl h19 h20) (TQ 9 (by kernel_rfl) rfl (ov_load_elem (v := (.int .u8 x4)) isAgg5 rfl rfl h23) (TQ 10 (by kernel_rfl) rfl (ov_build (r := (.agg #[(.int .u8 x3), (.int .u8 x4)])) rfl rfl (fun _ => by kernel_rfl)) ?_))
        refine AL.any (rs := [11]) (by kernel_rfl) (by decide) ?_
        refine ALs.cons (i := 11) rfl (Runs.free rfl) rfl rfl ?_ ?_
        ·
         obtain ⟨x5, e9, hm⟩ := bind_some hm
         obtain ⟨h24, h25, h26, cs5, h27, h28⟩ := RL.get rl14 e9
         obtain rfl : cs5 = [(.int .u8 x5.first), (.int .u8 x5.second)] := h27
         refine OQ.step (OV.quiet (ov_indexAddr_own (i := 0) underlying78 sizeOf80 rfl rfl rfl rfl h24 h25)) ?_
         refine ⟨fun w' s => (s.select [1, 2, 3, 4, 5, 6, 7, 8, 9] (by decide) rfl), ?_⟩
         refine AL.any (rs := [12]) (by kernel_rfl) (by decide) ?_
         refine ALs.cons0 (i := 12) rfl (Runs.free rfl) rfl ?_ ?_
         ·
          have rl15 := RL.set rl14 (y := (Cell.mk x3 x4)) (off := 0) (vs := [(.int .u8 x3), (.int .u8 x4)]) e9 h28 rfl (Nat.le_of_ble_eq_true rfl)
          have e10 := at?_set (y := (Cell.mk x3 x4)) e9
          refine os_store_own (i := 0) (vs := [(.int .u8 x3), (.int .u8 x4)]) sizeOf80 rfl rfl rfl rfl (own_pos h24 h25) rfl rfl (elem_le (off := 0) h26 (Nat.le_of_ble_eq_true rfl)) rfl ?_
          rw [show l7.length = (List.set l7 (Int.toNat i2) (Cell.mk x3 x4)).length from List.length_set.symm]
          obtain ⟨h29, h30, h31, cs6, h32, h33⟩ := rl15.get e10
          obtain rfl : cs6 = [(.int .u8 x3), (.int .u8 x4)] := h32
          refine ⟨fun w' s => (s.select [1, 2, 3, 4, 5, 6, 7, 8, 9] (by decide) rfl), ?_⟩
          refine AL.done (by kernel_rfl) ?_
          refine bn (tn (WP.region (V rfl (ov_add rfl rfl rfl) (Vm rfl (WL.nil (tn ?_))))))
          exact ⟨(IntKind.wrap .i64 (i2 + 1)), (List.set l7 (Int.toNat i2) (Cell.mk x3 x4)), ao10, cap10, (spl xs9 (Int.toNat i2 * encCell.size + 0) [(.int .u8 x3), (.int .u8 x4)]), rl15, (Sub.all rfl), fun w' s => s, hm⟩
         exact ALs.nil
        exact ALs.nil
       exact ALs.nil
      exact ALs.nil
     replace hm := ite_f hc5 hm
     refine WP.exit (then_exit (then_exit (block_here (tn ?_))))
     exact ⟨l7, ao10, cap10, xs9, rl14, (Sub.all rfl), fun w' s => s, hm⟩
    rintro g' S' ⟨l8, ao11, cap11, xs10, rl16, hsub3, hS3, hm⟩
    refine WP.sub hsub3 (WP.weaken hS3 ?_)
    replace hm := (congrFun hk3 l8).symm.trans hm
    obtain ⟨k4, hk4, hm⟩ := joinK_some hm
    refine WP.seq_join (fun g' S' => ∃ (l11 : (List Bool)) (ao14 : Option Addr) (cap14 : Nat) (xs13 : List Value) (l12 : (List Cell)) (ao15 : Option Addr) (cap15 : Nat) (xs14 : List Value), RL H encBool l11 xs13 ∧ RL H encCell l12 xs14 ∧ Sub [(1, (pB b1 0)), (3, (.slice (some ⟨b2, 0, none⟩) 5 5)), (4, (.slice ao14 l11.length cap14)), (7, (.slice ao15 l12.length cap15)), (20, (.slice ao1 p_s.steps.length cap1)), (21, (.int .i64 (p_s.steps.length : Int))), (22, (.int .i64 i1)), (1000000007, (.bool false))] g' ∧ (∀ w', S' w' → St w H [.row 80 (encCell).size l12.length (.slice ao15 l12.length cap15) xs14, .row 80 (encCell).size l6.length (.slice ao8 l6.length cap8) xs7, .row 80 (encCell).size l5.length (.slice ao7 l5.length cap7) xs6, .row 80 (encCell).size l4.length (.slice ao6 l4.length cap6) xs5, .row 80 (encCell).size l3.length (.slice ao5 l3.length cap5) xs4, .row 80 (encCell).size l2.length (.slice ao4 l2.length cap4) xs3, .row 4 (encBool).size l11.length (.slice ao14 l11.length cap14) xs13, .blk b2 78 [(.slice ao4 l2.length cap4), (.slice ao5 l3.length cap5), (.slice ao6 l4.length cap6), (.slice ao7 l5.length cap7), (.slice ao8 l6.length cap8)], .blk b1 24 [(.int .i64 p_s.actuators), (.slice ao1 p_s.steps.length cap1)]] H w') ∧ k4 l11 l12 = some r) ?_ ?_
    ·
     refine WP.seq (WP.region (V rfl (ov_fieldAddr underlying45 rfl rfl rfl sizeOf43 rfl rfl) (Vl 1 isAgg43 rfl (V rfl (ov_len_slice underlying43 rfl rfl) (Vm rfl (WL.nil (tn (WP.block ?_))))))))
     refine WP.loop (fun m3 g' S' => ∃ (i3 : Int) (l9 : (List Bool)) (ao12 : Option Addr) (cap12 : Nat) (xs11 : List Value) (l10 : (List Cell)) (ao13 : Option Addr) (cap13 : Nat) (xs12 : List Value), RL H encBool l9 xs11 ∧ RL H encCell l10 xs12 ∧ Sub [(1, (pB b1 0)), (3, (.slice (some ⟨b2, 0, none⟩) 5 5)), (4, (.slice ao12 l9.length cap12)), (7, (.slice ao13 l10.length cap13)), (20, (.slice ao1 p_s.steps.length cap1)), (21, (.int .i64 (p_s.steps.length : Int))), (22, (.int .i64 i1)), (50, (.slice ao9 x1.strokes.length cap9)), (51, (.int .i64 (x1.strokes.length : Int))), (52, (.int .i64 i3)), (1000000007, (.bool false))] g' ∧ (∀ w', S' w' → St w H [.row 80 (encCell).size l10.length (.slice ao13 l10.length cap13) xs12, .row 80 (encCell).size l6.length (.slice ao8 l6.length cap8) xs7, .row 80 (encCell).size l5.length (.slice ao7 l5.length cap7) xs6, .row 80 (encCell).size l4.length (.slice ao6 l4.length cap6) xs5, .row 80 (encCell).size l3.length (.slice ao5 l3.length cap5) xs4, .row 80 (encCell).size l2.length (.slice ao4 l2.length cap4) xs3, .row 4 (encBool).size l9.length (.slice ao12 l9.length cap12) xs11, .blk b2 78 [(.slice ao4 l2.length cap4), (.slice ao5 l3.length cap5), (.slice ao6 l4.length cap6), (.slice ao7 l5.length cap7), (.slice ao8 l6.length cap8)], .blk b1 24 [(.int .i64 p_s.actuators), (.slice ao1 p_s.steps.length cap1)]] H w') ∧ diagram_cells1_loop3 x1 k4 m3 i3 l9 l10 = some r) ((Int.toNat ((x1.strokes.length : Int) - 0) + 1)) ⟨0, l1, ao3, cap3, xs2, l8, ao11, cap11, xs10, rl7, rl16, (Sub.all rfl), fun w' s => (s.select [0, 2, 3, 4, 5, 6, 7, 8, 9] (by decide) rfl), hm⟩ ?_ ?_
     ·
      rintro g' S' ⟨_, _, _, _, _, _, _, _, _, _, _, _, _, hm⟩
      exact none_some hm
     rintro m3 g' S' ⟨i3, l9, ao12, cap12, xs11, l10, ao13, cap13, xs12, rl17, rl18, hsub4, hS4, hm⟩
     refine WP.sub hsub4 (WP.weaken hS4 ?_)
     rw [diagram_cells1_loop3] at hm
     refine WP.seq (WP.region (V rfl (ov_lss rfl rfl rfl) (WL.nil (tn (WP.seq ?_)))))
     refine WP.cond rfl (fun hc6 => ?_) (fun hc6 => ?_)
     ·
      replace hm := ite_t hc6 hm
      refine WP.skip (tn (WP.seq (WP.block (WP.seq (WP.region ?_)))))
      obtain ⟨x6, e11, hm⟩ := bind_some hm
      obtain ⟨h34, h35, h36, cs7, h37, h38⟩ := h3.get e11 (by decide)
      obtain rfl : cs7 = [(.int .i64 x6.actuator), (.bool x6.out)] := h37
      refine V rfl (ov_indexAddr underlying43 sizeOf48 rfl rfl rfl h34 h35 h36) (V rfl (ov_load_elems (vs := [(.int .i64 x6.actuator), (.bool x6.out)]) isAgg48 sizeOf48 rfl rfl rfl h38 h36) ?_)
      refine ws rfl (os_alloc (cs := [(.int .i64 0), (.bool false)]) zeroValue48 rfl rfl (fun b6 => ?_))
      refine ws0 rfl (os_store (i := 0) (vs := [(.int .i64 x6.actuator), (.bool x6.out)]) (cs' := [(.int .i64 x6.actuator), (.bool x6.out)]) sizeOf48 rfl rfl rfl rfl rfl rfl rfl rfl rfl ?_)
      refine WL.nil (tn (WP.seq (WP.region (Vm rfl (V rfl (ov_fieldAddr underlying48 rfl rfl rfl sizeOf3 rfl rfl) (Vl 0 isAgg3 rfl (V rfl (ov_fieldAddr underlying48 rfl rfl rfl sizeOf4 rfl rfl) (Vl 0 isAgg4 rfl ?_))))))))
      obtain ⟨x7, e12, hm⟩ := bind_some hm
      obtain ⟨h39, h40, h41, cs8, h42, h43⟩ := RL.get rl17 e12
      obtain rfl : cs8 = [(.bool x7)] := h42
      refine V rfl (ov_indexAddr_own (i := 7) underlying49 sizeOf4 rfl rfl rfl rfl h39 h40) ?_
      have rl19 := RL.set rl17 (y := x6.out) (off := 0) (vs := [(.bool x6.out)]) e12 h43 rfl (Nat.le_of_ble_eq_true rfl)
      have e13 := at?_set (y := x6.out) e12
      refine ws0 rfl (os_store_own (i := 7) (vs := [(.bool x6.out)]) sizeOf4 rfl rfl rfl rfl (own_pos h39 h40) rfl rfl (elem_le (off := 0) h41 (Nat.le_of_ble_eq_true rfl)) rfl ?_)
      rw [show l9.length = (List.set l9 (Int.toNat x6.actuator) x6.out).length from List.length_set.symm]
      obtain ⟨h44, h45, h46, cs9, h47, h48⟩ := rl19.get e13
      obtain rfl : cs9 = [(.bool x6.out)] := h47
      refine WL.nil (tn ?_)
      refine WP.region_any (S₀ := St w H [.blk b6 48 [(.int .i64 x6.actuator), (.bool x6.out)], .row 80 (encCell).size l6.length (.slice ao8 l6.length cap8) xs7, .row 80 (encCell).size l5.length (.slice ao7 l5.length cap7) xs6, .row 80 (encCell).size l4.length (.slice ao6 l4.length cap6) xs5, .row 80 (encCell).size l3.length (.slice ao5 l3.length cap5) xs4, .row 80 (encCell).size l2.length (.slice ao4 l2.length cap4) xs3, .row 4 (encBool).size (List.set l9 (Int.toNat x6.actuator) x6.out).length (.slice ao12 (List.set l9 (Int.toNat x6.actuator) x6.out).length cap12) (spl xs11 (Int.toNat x6.actuator * encBool.size + 0) [(.bool x6.out)]), .blk b2 78 [(.slice ao4 l2.length cap4), (.slice ao5 l3.length cap5), (.slice ao6 l4.length cap6), (.slice ao7 l5.length cap7), (.slice ao8 l6.length cap8)], .blk b1 24 [(.int .i64 p_s.actuators), (.slice ao1 p_s.steps.length cap1)]] H) 16 rfl (by kernel_rfl) (fun w' s => (s.select [0, 2, 3, 4, 5, 6, 7, 8, 9] (by decide) rfl)) (fun _ s => s.drew) ?_
      refine TQ 0 (by kernel_rfl) rfl (ov_move rfl rfl) (TQ 1 (by kernel_rfl) rfl (ov_fieldAddr underlying48 rfl rfl rfl sizeOf3 rfl rfl) (TQ 2 (by kernel_rfl) rfl (ov_load_box (i := 0) isAgg3 rfl rfl rfl rfl) (TQ 3 (by kernel_rfl) rfl (ov_fieldAddr underlying48 rfl rfl rfl sizeOf4 rfl rfl) (TQ 4 (by kernel_rfl) rfl (ov_load_box (i := 0) isAgg4 rfl rfl rfl rfl) (TQ 8 (by kernel_rfl) rfl (ov_fieldAddr underlying48 rfl rfl rfl sizeOf4 rfl rfl) (TQ 9 (by kernel_rfl) rfl (ov_load_box (i := 0) isAgg4 rfl rfl rfl rfl) ?_))))))
      refine AL.any (rs := [5]) (by kernel_rfl) (by decide) ?_
      refine ALs.cons (i := 5) rfl (Runs.free rfl) rfl rfl ?_ ?_
      ·
       obtain ⟨r3, e14, hm⟩ := bind_some hm
       refine OQ.step (oq_con (r := (.int .i64 r3)) call87 rfl rfl (fun w' s => ⟨_, (diagram_index_con x6.out  w' H s.hold hG r3 e14)⟩)) ?_
       refine ⟨fun w' s => (s.select [0, 2, 3, 4, 5, 6, 7, 8, 9] (by decide) rfl), ?_⟩
       obtain ⟨x8, e15, hm⟩ := bind_some hm
       obtain ⟨h49, h50, h51, cs10, h52, h53⟩ := hG.1.1.2.get e15 (by decide)
       obtain rfl : cs10 = [(.int .u8 x8)] := h52
       refine TQ 6 (by kernel_rfl) rfl (ov_indexAddr_globL rfl underlying84 sizeOf5 rfl rfl rfl h49 h50) (TQ 7 (by kernel_rfl) rfl (ov_load_elem (v := (.int .u8 x8)) isAgg5 rfl rfl h53) ?_)
       refine AL.any (rs := [10]) (by kernel_rfl) (by decide) ?_
       refine ALs.cons (i := 10) rfl (Runs.free rfl) rfl rfl ?_ ?_
       ·
        obtain ⟨r4, e16, hm⟩ := bind_some hm
        refine OQ.step (oq_con (r := (.int .i64 r4)) call87 rfl rfl (fun w' s => ⟨_, (diagram_index_con x6.out  w' H s.hold hG r4 e16)⟩)) ?_
        refine ⟨fun w' s => (s.select [0, 2, 3, 4, 5, 6, 7, 8, 9] (by decide) rfl), ?_⟩
        obtain ⟨x9, e17, hm⟩ := bind_some hm
        obtain ⟨h54, h55, h56, cs11, h57, h58⟩ := hG.1.1.1.get e17 (by decide)
        obtain rfl : cs11 = [(.int .u8 x9)] := h57
        refine TQ 11 (by kernel_rfl) rfl (ov_indexAddr_globL rfl underlying84 sizeOf5 rfl rfl rfl h54 h55) (TQ 12 (by kernel_rfl) rfl (ov_load_elem (v := (.int .u8 x9)) isAgg5 rfl rfl h58) (TQ 13 (by kernel_rfl) rfl (ov_build (r := (.agg #[(.int .u8 x8), (.int .u8 x9)])) rfl rfl (fun _ => by kernel_rfl)) ?_))
        refine AL.any (rs := [14]) (by kernel_rfl) (by decide) ?_
        refine ALs.cons (i := 14) rfl (Runs.free rfl) rfl rfl ?_ ?_
        ·
         obtain ⟨x10, e18, hm⟩ := bind_some hm
         obtain ⟨h59, h60, h61, cs12, h62, h63⟩ := RL.get rl18 e18
         obtain rfl : cs12 = [(.int .u8 x10.first), (.int .u8 x10.second)] := h62
         refine OQ.step (OV.quiet (ov_indexAddr_own (i := 1) underlying78 sizeOf80 rfl rfl rfl rfl h59 h60)) ?_
         refine ⟨fun w' s => (s.select [0, 2, 3, 4, 5, 6, 7, 8, 9] (by decide) rfl), ?_⟩
         refine AL.any (rs := [15]) (by kernel_rfl) (by decide) ?_
         refine ALs.cons0 (i := 15) rfl (Runs.free rfl) rfl ?_ ?_
         ·
          have rl20 := RL.set rl18 (y := (Cell.mk x8 x9)) (off := 0) (vs := [(.int .u8 x8), (.int .u8 x9)]) e18 h63 rfl (Nat.le_of_ble_eq_true rfl)
          have e19 := at?_set (y := (Cell.mk x8 x9)) e18
          refine os_store_own (i := 1) (vs := [(.int .u8 x8), (.int .u8 x9)]) sizeOf80 rfl rfl rfl rfl (own_pos h59 h60) rfl rfl (elem_le (off := 0) h61 (Nat.le_of_ble_eq_true rfl)) rfl ?_
          rw [show l10.length = (List.set l10 (Int.toNat x6.actuator) (Cell.mk x8 x9)).length from List.length_set.symm]
          obtain ⟨h64, h65, h66, cs13, h67, h68⟩ := rl20.get e19
          obtain rfl : cs13 = [(.int .u8 x8), (.int .u8 x9)] := h67
          refine ⟨fun w' s => (s.select [0, 2, 3, 4, 5, 6, 7, 8, 9] (by decide) rfl), ?_⟩
          refine AL.done (by kernel_rfl) ?_
          refine bn (tn (WP.region (V rfl (ov_add rfl rfl rfl) (Vm rfl (WL.nil (tn ?_))))))
          exact ⟨(IntKind.wrap .i64 (i3 + 1)), (List.set l9 (Int.toNat x6.actuator) x6.out), ao12, cap12, (spl xs11 (Int.toNat x6.actuator * encBool.size + 0) [(.bool x6.out)]), (List.set l10 (Int.toNat x6.actuator) (Cell.mk x8 x9)), ao13, cap13, (spl xs12 (Int.toNat x6.actuator * encCell.size + 0) [(.int .u8 x8), (.int .u8 x9)]), rl19, rl20, (Sub.all rfl), fun w' s => (s.select [1, 2, 3, 4, 5, 6, 7, 8, 9] (by decide) rfl), hm⟩
         exact ALs.nil
        exact ALs.nil
       exact ALs.nil
      exact ALs.nil
     replace hm := ite_f hc6 hm
     refine WP.exit (then_exit (then_exit (block_here (tn ?_))))
     exact ⟨l9, ao12, cap12, xs11, l10, ao13, cap13, xs12, rl17, rl18, (Sub.all rfl), fun w' s => s, hm⟩
    rintro g' S' ⟨l11, ao14, cap14, xs13, l12, ao15, cap15, xs14, rl21, rl22, hsub5, hS5, hm⟩
    refine WP.sub hsub5 (WP.weaken hS5 ?_)
    replace hm := (congrFun (congrFun hk4 l11) l12).symm.trans hm
    refine WP.seq (WP.region (Vm rfl (V rfl (ov_len_slice underlying76 rfl rfl) (Vm rfl (WL.nil (tn (WP.block ?_)))))))
    refine WP.loop (fun m4 g' S' => ∃ (i4 : Int) (l13 : (List Cell)) (ao16 : Option Addr) (cap16 : Nat) (xs15 : List Value) (l14 : (List Cell)) (ao17 : Option Addr) (cap17 : Nat) (xs16 : List Value) (l15 : (List Cell)) (ao18 : Option Addr) (cap18 : Nat) (xs17 : List Value) (l16 : (List Cell)) (ao19 : Option Addr) (cap19 : Nat) (xs18 : List Value) (l17 : (List Cell)) (ao20 : Option Addr) (cap20 : Nat) (xs19 : List Value), RL H encCell l13 xs15 ∧ RL H encCell l14 xs16 ∧ RL H encCell l15 xs17 ∧ RL H encCell l16 xs18 ∧ RL H encCell l17 xs19 ∧ Sub [(1, (pB b1 0)), (3, (.slice (some ⟨b2, 0, none⟩) 5 5)), (4, (.slice ao14 l11.length cap14)), (7, (.slice ao15 l12.length cap15)), (20, (.slice ao1 p_s.steps.length cap1)), (21, (.int .i64 (p_s.steps.length : Int))), (22, (.int .i64 i1)), (79, (.int .i64 5)), (80, (.int .i64 i4)), (1000000007, (.bool false))] g' ∧ (∀ w', S' w' → St w H [.row 80 (encCell).size l12.length (.slice ao15 l12.length cap15) xs14, .row 80 (encCell).size l17.length (.slice ao20 l17.length cap20) xs19, .row 80 (encCell).size l16.length (.slice ao19 l16.length cap19) xs18, .row 80 (encCell).size l15.length (.slice ao18 l15.length cap18) xs17, .row 80 (encCell).size l14.length (.slice ao17 l14.length cap17) xs16, .row 80 (encCell).size l13.length (.slice ao16 l13.length cap16) xs15, .row 4 (encBool).size l11.length (.slice ao14 l11.length cap14) xs13, .blk b2 78 [(.slice ao16 l13.length cap16), (.slice ao17 l14.length cap17), (.slice ao18 l15.length cap18), (.slice ao19 l16.length cap19), (.slice ao20 l17.length cap20)], .blk b1 24 [(.int .i64 p_s.actuators), (.slice ao1 p_s.steps.length cap1)]] H w') ∧ diagram_cells5_loop4 k2 l12 l11 m4 i4 l13 l14 l15 l16 l17 = some r) ((Int.toNat (5 - 0) + 1)) ⟨0, l2, ao4, cap4, xs3, l3, ao5, cap5, xs4, l4, ao6, cap6, xs5, l5, ao7, cap7, xs6, l6, ao8, cap8, xs7, rl8, rl9, rl10, rl11, rl12, (Sub.all rfl), fun w' s => s, hm⟩ ?_ ?_
    ·
     rintro g' S' ⟨_, _, _, _, _, _, _, _, _, _, _, _, _, _, _, _, _, _, _, _, _, _, _, _, _, _, _, _, hm⟩
     exact none_some hm
    rintro m4 g' S' ⟨i4, l13, ao16, cap16, xs15, l14, ao17, cap17, xs16, l15, ao18, cap18, xs17, l16, ao19, cap19, xs18, l17, ao20, cap20, xs19, rl23, rl24, rl25, rl26, rl27, hsub6, hS6, hm⟩
    refine WP.sub hsub6 (WP.weaken hS6 ?_)
    rw [diagram_cells5_loop4] at hm
    refine WP.seq (WP.region (V rfl (ov_lss rfl rfl rfl) (WL.nil (tn (WP.seq ?_)))))
    refine WP.cond rfl (fun hc7 => ?_) (fun hc7 => ?_)
    ·
     replace hm := ite_t hc7 hm
     refine WP.skip (tn (WP.seq (WP.block (WP.seq (WP.region (Vm rfl (Va rfl (WL.nil (tn ?_)))))))))
     refine WP.region_any (S₀ := St w H [.row 80 (encCell).size l12.length (.slice ao15 l12.length cap15) xs14, .row 4 (encBool).size l11.length (.slice ao14 l11.length cap14) xs13, .blk b1 24 [(.int .i64 p_s.actuators), (.slice ao1 p_s.steps.length cap1)]] H) 14 rfl (by kernel_rfl) (fun w' s => (s.select [0, 6, 8] (by decide) rfl)) (fun _ s => s.drew) ?_
     refine TQ 0 (by kernel_rfl) rfl (ov_move rfl rfl) (TQ 1 (by kernel_rfl) rfl (ov_move rfl rfl) (TQ 2 (by kernel_rfl) rfl (ov_move rfl rfl) (TQ 3 (by kernel_rfl) rfl (ov_move rfl rfl) ?_)))
     rcases Bool.eq_false_or_eq_true (i4 == 0) with hc8 | hc8
     ·
      replace hm := ite_t hc8 hm
      refine TQ 4 (by kernel_rfl) rfl (ov_indexAddr_bsl (j := 0) underlying76 sizeOf78 rfl rfl rfl (eq_of_beq hc8) rfl) (TQ 6 (by kernel_rfl) rfl (ov_move rfl rfl) (TQ 7 (by kernel_rfl) rfl (ov_move rfl rfl) ?_))
      obtain ⟨x11, e20, hm⟩ := bind_some hm
      obtain ⟨h69, h70, h71, cs14, h72, h73⟩ := RL.get rl22 e20
      obtain rfl : cs14 = [(.int .u8 x11.first), (.int .u8 x11.second)] := h72
      refine TQ 8 (by kernel_rfl) rfl (ov_indexAddr_own (i := 0) underlying78 sizeOf80 rfl rfl rfl rfl h69 h70) (TQ 9 (by kernel_rfl) rfl (ov_load_owns (i := 0) (vs := [(.int .u8 x11.first), (.int .u8 x11.second)]) isAgg80 sizeOf80 rfl rfl rfl (own_pos h69 h70) rfl (fun j u hu => elem_cell h73 hu)) ?_)
      refine AL.any (rs := [5, 10]) (by kernel_rfl) (by decide) ?_
      refine ALs.cons (i := 5) rfl (Runs.free rfl) rfl rfl ?_ ?_
      ·
       refine OQ.step (OV.quiet (ov_load_box (i := 7) isAgg78 rfl rfl rfl rfl)) ?_
       refine ⟨fun w' s => (s.select [0, 6, 8] (by decide) rfl), ?_⟩
       refine AL.any (rs := [10]) (by kernel_rfl) (by decide) ?_
       refine ALs.cons (i := 10) rfl (Runs.free rfl) rfl rfl ?_ ?_
       ·
        have rl28 : RL H encCell ([x11] : List Cell) [(.int .u8 x11.first), (.int .u8 x11.second)] := RL.cons (cs := [(.int .u8 x11.first), (.int .u8 x11.second)]) (xs := []) rfl (RL.nil _ _)
        refine os_buildSlice (cs := [(.int .u8 x11.first), (.int .u8 x11.second)]) (E := 80) (sz := 2) rfl rfl (fun _ => by kernel_rfl) rfl (by decide) (fun b7 => ?_)
        refine ⟨fun w' s => (s.select [1, 7, 9] (by decide) rfl), ?_⟩
        refine AL.any (rs := [11]) (by kernel_rfl) (by decide) ?_
        refine ALs.cons (i := 11) rfl (Runs.free rfl) rfl rfl ?_ ?_
        ·
         obtain ⟨l18, e21, hm⟩ := bind_some hm
         refine os_app (i := 6) (j := 0) (En := encCell) (xs := xs15) (ys := [(.int .u8 x11.first), (.int .u8 x11.second)]) underlying78 (by kernel_rfl : (prog.info? 80).map (fun i => (i.zero, i.size, i.bytes)) = some (some (.agg #[(.int .u8 0), (.int .u8 0)]), (encCell).size, 2)) rfl (by decide) rfl rfl rfl rfl rfl rfl rl23 rl28 e21 (fun ao21 cap21 rl29 => ?_)
         refine ⟨fun w' s => (s.select [1, 7, 9] (by decide) rfl), ?_⟩
         refine TQ 12 (by kernel_rfl) rfl (ov_indexAddr_bsl (j := 0) underlying76 sizeOf78 rfl rfl rfl (eq_of_beq hc8) rfl) ?_
         refine AL.any (rs := [13]) (by kernel_rfl) (by decide) ?_
         refine ALs.cons0 (i := 13) rfl (Runs.free rfl) rfl ?_ ?_
         ·
          refine os_store (i := 8) (vs := [(.slice ao21 (l13 ++ ([x11] : List Cell)).length cap21)]) (cs' := [(.slice ao21 (l13 ++ ([x11] : List Cell)).length cap21), (.slice ao17 l14.length cap17), (.slice ao18 l15.length cap18), (.slice ao19 l16.length cap19), (.slice ao20 l17.length cap20)]) sizeOf78 rfl rfl rfl rfl rfl rfl rfl rfl rfl ?_
          refine ⟨fun w' s => (s.select [1, 7, 9] (by decide) rfl), ?_⟩
          refine AL.done (by kernel_rfl) ?_
          refine bn (tn (WP.region (V rfl (ov_add rfl rfl rfl) (Vm rfl (WL.nil (tn ?_))))))
          exact ⟨(IntKind.wrap .i64 (i4 + 1)), (l13 ++ ([x11] : List Cell)), ao21, cap21, (xs15 ++ [(.int .u8 x11.first), (.int .u8 x11.second)]), l14, ao17, cap17, xs16, l15, ao18, cap18, xs17, l16, ao19, cap19, xs18, l17, ao20, cap20, xs19, rl29, rl24, rl25, rl26, rl27, (Sub.all rfl), fun w' s => (s.select [1, 2, 3, 4, 5, 6, 7, 8, 9] (by decide) rfl), hm⟩
         exact ALs.nil
        exact ALs.nil
       exact ALs.nil
      refine ALs.cons (i := 10) rfl (Runs.free rfl) rfl rfl ?_ ?_
      ·
       have rl28 : RL H encCell ([x11] : List Cell) [(.int .u8 x11.first), (.int .u8 x11.second)] := RL.cons (cs := [(.int .u8 x11.first), (.int .u8 x11.second)]) (xs := []) rfl (RL.nil _ _)
       refine os_buildSlice (cs := [(.int .u8 x11.first), (.int .u8 x11.second)]) (E := 80) (sz := 2) rfl rfl (fun _ => by kernel_rfl) rfl (by decide) (fun b7 => ?_)
       refine ⟨fun w' s => (s.select [1, 7, 9] (by decide) rfl), ?_⟩
       refine AL.any (rs := [5]) (by kernel_rfl) (by decide) ?_
       refine ALs.cons (i := 5) rfl (Runs.free rfl) rfl rfl ?_ ?_
       ·
        refine OQ.step (OV.quiet (ov_load_box (i := 8) isAgg78 rfl rfl rfl rfl)) ?_
        refine ⟨fun w' s => (s.select [1, 7, 9] (by decide) rfl), ?_⟩
        refine AL.any (rs := [11]) (by kernel_rfl) (by decide) ?_
        refine ALs.cons (i := 11) rfl (Runs.free rfl) rfl rfl ?_ ?_
        ·
         obtain ⟨l18, e21, hm⟩ := bind_some hm
         refine os_app (i := 6) (j := 0) (En := encCell) (xs := xs15) (ys := [(.int .u8 x11.first), (.int .u8 x11.second)]) underlying78 (by kernel_rfl : (prog.info? 80).map (fun i => (i.zero, i.size, i.bytes)) = some (some (.agg #[(.int .u8 0), (.int .u8 0)]), (encCell).size, 2)) rfl (by decide) rfl rfl rfl rfl rfl rfl rl23 rl28 e21 (fun ao21 cap21 rl29 => ?_)
         refine ⟨fun w' s => (s.select [1, 7, 9] (by decide) rfl), ?_⟩
         refine TQ 12 (by kernel_rfl) rfl (ov_indexAddr_bsl (j := 0) underlying76 sizeOf78 rfl rfl rfl (eq_of_beq hc8) rfl) ?_
         refine AL.any (rs := [13]) (by kernel_rfl) (by decide) ?_
         refine ALs.cons0 (i := 13) rfl (Runs.free rfl) rfl ?_ ?_
         ·
          refine os_store (i := 8) (vs := [(.slice ao21 (l13 ++ ([x11] : List Cell)).length cap21)]) (cs' := [(.slice ao21 (l13 ++ ([x11] : List Cell)).length cap21), (.slice ao17 l14.length cap17), (.slice ao18 l15.length cap18), (.slice ao19 l16.length cap19), (.slice ao20 l17.length cap20)]) sizeOf78 rfl rfl rfl rfl rfl rfl rfl rfl rfl ?_
          refine ⟨fun w' s => (s.select [1, 7, 9] (by decide) rfl), ?_⟩
          refine AL.done (by kernel_rfl) ?_
          refine bn (tn (WP.region (V rfl (ov_add rfl rfl rfl) (Vm rfl (WL.nil (tn ?_))))))
          exact ⟨(IntKind.wrap .i64 (i4 + 1)), (l13 ++ ([x11] : List Cell)), ao21, cap21, (xs15 ++ [(.int .u8 x11.first), (.int .u8 x11.second)]), l14, ao17, cap17, xs16, l15, ao18, cap18, xs17, l16, ao19, cap19, xs18, l17, ao20, cap20, xs19, rl29, rl24, rl25, rl26, rl27, (Sub.all rfl), fun w' s => (s.select [1, 2, 3, 4, 5, 6, 7, 8, 9] (by decide) rfl), hm⟩
         exact ALs.nil
        exact ALs.nil
       exact ALs.nil
      exact ALs.nil
     replace hm := ite_f hc8 hm
     rcases Bool.eq_false_or_eq_true (i4 == 1) with hc9 | hc9
     ·
      replace hm := ite_t hc9 hm
      refine TQ 4 (by kernel_rfl) rfl (ov_indexAddr_bsl (j := 1) underlying76 sizeOf78 rfl rfl rfl (eq_of_beq hc9) rfl) (TQ 6 (by kernel_rfl) rfl (ov_move rfl rfl) (TQ 7 (by kernel_rfl) rfl (ov_move rfl rfl) ?_))
      obtain ⟨x12, e22, hm⟩ := bind_some hm
      obtain ⟨h74, h75, h76, cs15, h77, h78⟩ := RL.get rl22 e22
      obtain rfl : cs15 = [(.int .u8 x12.first), (.int .u8 x12.second)] := h77
      refine TQ 8 (by kernel_rfl) rfl (ov_indexAddr_own (i := 0) underlying78 sizeOf80 rfl rfl rfl rfl h74 h75) (TQ 9 (by kernel_rfl) rfl (ov_load_owns (i := 0) (vs := [(.int .u8 x12.first), (.int .u8 x12.second)]) isAgg80 sizeOf80 rfl rfl rfl (own_pos h74 h75) rfl (fun j u hu => elem_cell h78 hu)) ?_)
      refine AL.any (rs := [5, 10]) (by kernel_rfl) (by decide) ?_
      refine ALs.cons (i := 5) rfl (Runs.free rfl) rfl rfl ?_ ?_
      ·
       refine OQ.step (OV.quiet (ov_load_box (i := 7) isAgg78 rfl rfl rfl rfl)) ?_
       refine ⟨fun w' s => (s.select [0, 6, 8] (by decide) rfl), ?_⟩
       refine AL.any (rs := [10]) (by kernel_rfl) (by decide) ?_
       refine ALs.cons (i := 10) rfl (Runs.free rfl) rfl rfl ?_ ?_
       ·
        have rl30 : RL H encCell ([x12] : List Cell) [(.int .u8 x12.first), (.int .u8 x12.second)] := RL.cons (cs := [(.int .u8 x12.first), (.int .u8 x12.second)]) (xs := []) rfl (RL.nil _ _)
        refine os_buildSlice (cs := [(.int .u8 x12.first), (.int .u8 x12.second)]) (E := 80) (sz := 2) rfl rfl (fun _ => by kernel_rfl) rfl (by decide) (fun b8 => ?_)
        refine ⟨fun w' s => (s.select [1, 7, 9] (by decide) rfl), ?_⟩
        refine AL.any (rs := [11]) (by kernel_rfl) (by decide) ?_
        refine ALs.cons (i := 11) rfl (Runs.free rfl) rfl rfl ?_ ?_
        ·
         obtain ⟨l19, e23, hm⟩ := bind_some hm
         refine os_app (i := 5) (j := 0) (En := encCell) (xs := xs16) (ys := [(.int .u8 x12.first), (.int .u8 x12.second)]) underlying78 (by kernel_rfl : (prog.info? 80).map (fun i => (i.zero, i.size, i.bytes)) = some (some (.agg #[(.int .u8 0), (.int .u8 0)]), (encCell).size, 2)) rfl (by decide) rfl rfl rfl rfl rfl rfl rl24 rl30 e23 (fun ao22 cap22 rl31 => ?_)
         refine ⟨fun w' s => (s.select [1, 7, 9] (by decide) rfl), ?_⟩
         refine TQ 12 (by kernel_rfl) rfl (ov_indexAddr_bsl (j := 1) underlying76 sizeOf78 rfl rfl rfl (eq_of_beq hc9) rfl) ?_
         refine AL.any (rs := [13]) (by kernel_rfl) (by decide) ?_
         refine ALs.cons0 (i := 13) rfl (Runs.free rfl) rfl ?_ ?_
         ·
          refine os_store (i := 8) (vs := [(.slice ao22 (l14 ++ ([x12] : List Cell)).length cap22)]) (cs' := [(.slice ao16 l13.length cap16), (.slice ao22 (l14 ++ ([x12] : List Cell)).length cap22), (.slice ao18 l15.length cap18), (.slice ao19 l16.length cap19), (.slice ao20 l17.length cap20)]) sizeOf78 rfl rfl rfl rfl rfl rfl rfl rfl rfl ?_
          refine ⟨fun w' s => (s.select [1, 7, 9] (by decide) rfl), ?_⟩
          refine AL.done (by kernel_rfl) ?_
          refine bn (tn (WP.region (V rfl (ov_add rfl rfl rfl) (Vm rfl (WL.nil (tn ?_))))))
          exact ⟨(IntKind.wrap .i64 (i4 + 1)), l13, ao16, cap16, xs15, (l14 ++ ([x12] : List Cell)), ao22, cap22, (xs16 ++ [(.int .u8 x12.first), (.int .u8 x12.second)]), l15, ao18, cap18, xs17, l16, ao19, cap19, xs18, l17, ao20, cap20, xs19, rl23, rl31, rl25, rl26, rl27, (Sub.all rfl), fun w' s => (s.select [1, 2, 3, 4, 5, 6, 7, 8, 9] (by decide) rfl), hm⟩
         exact ALs.nil
        exact ALs.nil
       exact ALs.nil
      refine ALs.cons (i := 10) rfl (Runs.free rfl) rfl rfl ?_ ?_
      ·
       have rl30 : RL H encCell ([x12] : List Cell) [(.int .u8 x12.first), (.int .u8 x12.second)] := RL.cons (cs := [(.int .u8 x12.first), (.int .u8 x12.second)]) (xs := []) rfl (RL.nil _ _)
       refine os_buildSlice (cs := [(.int .u8 x12.first), (.int .u8 x12.second)]) (E := 80) (sz := 2) rfl rfl (fun _ => by kernel_rfl) rfl (by decide) (fun b8 => ?_)
       refine ⟨fun w' s => (s.select [1, 7, 9] (by decide) rfl), ?_⟩
       refine AL.any (rs := [5]) (by kernel_rfl) (by decide) ?_
       refine ALs.cons (i := 5) rfl (Runs.free rfl) rfl rfl ?_ ?_
       ·
        refine OQ.step (OV.quiet (ov_load_box (i := 8) isAgg78 rfl rfl rfl rfl)) ?_
        refine ⟨fun w' s => (s.select [1, 7, 9] (by decide) rfl), ?_⟩
        refine AL.any (rs := [11]) (by kernel_rfl) (by decide) ?_
        refine ALs.cons (i := 11) rfl (Runs.free rfl) rfl rfl ?_ ?_
        ·
         obtain ⟨l19, e23, hm⟩ := bind_some hm
         refine os_app (i := 5) (j := 0) (En := encCell) (xs := xs16) (ys := [(.int .u8 x12.first), (.int .u8 x12.second)]) underlying78 (by kernel_rfl : (prog.info? 80).map (fun i => (i.zero, i.size, i.bytes)) = some (some (.agg #[(.int .u8 0), (.int .u8 0)]), (encCell).size, 2)) rfl (by decide) rfl rfl rfl rfl rfl rfl rl24 rl30 e23 (fun ao22 cap22 rl31 => ?_)
         refine ⟨fun w' s => (s.select [1, 7, 9] (by decide) rfl), ?_⟩
         refine TQ 12 (by kernel_rfl) rfl (ov_indexAddr_bsl (j := 1) underlying76 sizeOf78 rfl rfl rfl (eq_of_beq hc9) rfl) ?_
         refine AL.any (rs := [13]) (by kernel_rfl) (by decide) ?_
         refine ALs.cons0 (i := 13) rfl (Runs.free rfl) rfl ?_ ?_
         ·
          refine os_store (i := 8) (vs := [(.slice ao22 (l14 ++ ([x12] : List Cell)).length cap22)]) (cs' := [(.slice ao16 l13.length cap16), (.slice ao22 (l14 ++ ([x12] : List Cell)).length cap22), (.slice ao18 l15.length cap18), (.slice ao19 l16.length cap19), (.slice ao20 l17.length cap20)]) sizeOf78 rfl rfl rfl rfl rfl rfl rfl rfl rfl ?_
          refine ⟨fun w' s => (s.select [1, 7, 9] (by decide) rfl), ?_⟩
          refine AL.done (by kernel_rfl) ?_
          refine bn (tn (WP.region (V rfl (ov_add rfl rfl rfl) (Vm rfl (WL.nil (tn ?_))))))
          exact ⟨(IntKind.wrap .i64 (i4 + 1)), l13, ao16, cap16, xs15, (l14 ++ ([x12] : List Cell)), ao22, cap22, (xs16 ++ [(.int .u8 x12.first), (.int .u8 x12.second)]), l15, ao18, cap18, xs17, l16, ao19, cap19, xs18, l17, ao20, cap20, xs19, rl23, rl31, rl25, rl26, rl27, (Sub.all rfl), fun w' s => (s.select [1, 2, 3, 4, 5, 6, 7, 8, 9] (by decide) rfl), hm⟩
         exact ALs.nil
        exact ALs.nil
       exact ALs.nil
      exact ALs.nil
     replace hm := ite_f hc9 hm
     rcases Bool.eq_false_or_eq_true (i4 == 2) with hc10 | hc10
     ·
      replace hm := ite_t hc10 hm
      refine TQ 4 (by kernel_rfl) rfl (ov_indexAddr_bsl (j := 2) underlying76 sizeOf78 rfl rfl rfl (eq_of_beq hc10) rfl) (TQ 6 (by kernel_rfl) rfl (ov_move rfl rfl) (TQ 7 (by kernel_rfl) rfl (ov_move rfl rfl) ?_))
      obtain ⟨x13, e24, hm⟩ := bind_some hm
      obtain ⟨h79, h80, h81, cs16, h82, h83⟩ := RL.get rl22 e24
      obtain rfl : cs16 = [(.int .u8 x13.first), (.int .u8 x13.second)] := h82
      refine TQ 8 (by kernel_rfl) rfl (ov_indexAddr_own (i := 0) underlying78 sizeOf80 rfl rfl rfl rfl h79 h80) (TQ 9 (by kernel_rfl) rfl (ov_load_owns (i := 0) (vs := [(.int .u8 x13.first), (.int .u8 x13.second)]) isAgg80 sizeOf80 rfl rfl rfl (own_pos h79 h80) rfl (fun j u hu => elem_cell h83 hu)) ?_)
      refine AL.any (rs := [5, 10]) (by kernel_rfl) (by decide) ?_
      refine ALs.cons (i := 5) rfl (Runs.free rfl) rfl rfl ?_ ?_
      ·
       refine OQ.step (OV.quiet (ov_load_box (i := 7) isAgg78 rfl rfl rfl rfl)) ?_
       refine ⟨fun w' s => (s.select [0, 6, 8] (by decide) rfl), ?_⟩
       refine AL.any (rs := [10]) (by kernel_rfl) (by decide) ?_
       refine ALs.cons (i := 10) rfl (Runs.free rfl) rfl rfl ?_ ?_
       ·
        have rl32 : RL H encCell ([x13] : List Cell) [(.int .u8 x13.first), (.int .u8 x13.second)] := RL.cons (cs := [(.int .u8 x13.first), (.int .u8 x13.second)]) (xs := []) rfl (RL.nil _ _)
        refine os_buildSlice (cs := [(.int .u8 x13.first), (.int .u8 x13.second)]) (E := 80) (sz := 2) rfl rfl (fun _ => by kernel_rfl) rfl (by decide) (fun b9 => ?_)
        refine ⟨fun w' s => (s.select [1, 7, 9] (by decide) rfl), ?_⟩
        refine AL.any (rs := [11]) (by kernel_rfl) (by decide) ?_
        refine ALs.cons (i := 11) rfl (Runs.free rfl) rfl rfl ?_ ?_
        ·
         obtain ⟨l20, e25, hm⟩ := bind_some hm
         refine os_app (i := 4) (j := 0) (En := encCell) (xs := xs17) (ys := [(.int .u8 x13.first), (.int .u8 x13.second)]) underlying78 (by kernel_rfl : (prog.info? 80).map (fun i => (i.zero, i.size, i.bytes)) = some (some (.agg #[(.int .u8 0), (.int .u8 0)]), (encCell).size, 2)) rfl (by decide) rfl rfl rfl rfl rfl rfl rl25 rl32 e25 (fun ao23 cap23 rl33 => ?_)
         refine ⟨fun w' s => (s.select [1, 7, 9] (by decide) rfl), ?_⟩
         refine TQ 12 (by kernel_rfl) rfl (ov_indexAddr_bsl (j := 2) underlying76 sizeOf78 rfl rfl rfl (eq_of_beq hc10) rfl) ?_
         refine AL.any (rs := [13]) (by kernel_rfl) (by decide) ?_
         refine ALs.cons0 (i := 13) rfl (Runs.free rfl) rfl ?_ ?_
         ·
          refine os_store (i := 8) (vs := [(.slice ao23 (l15 ++ ([x13] : List Cell)).length cap23)]) (cs' := [(.slice ao16 l13.length cap16), (.slice ao17 l14.length cap17), (.slice ao23 (l15 ++ ([x13] : List Cell)).length cap23), (.slice ao19 l16.length cap19), (.slice ao20 l17.length cap20)]) sizeOf78 rfl rfl rfl rfl rfl rfl rfl rfl rfl ?_
          refine ⟨fun w' s => (s.select [1, 7, 9] (by decide) rfl), ?_⟩
          refine AL.done (by kernel_rfl) ?_
          refine bn (tn (WP.region (V rfl (ov_add rfl rfl rfl) (Vm rfl (WL.nil (tn ?_))))))
          exact ⟨(IntKind.wrap .i64 (i4 + 1)), l13, ao16, cap16, xs15, l14, ao17, cap17, xs16, (l15 ++ ([x13] : List Cell)), ao23, cap23, (xs17 ++ [(.int .u8 x13.first), (.int .u8 x13.second)]), l16, ao19, cap19, xs18, l17, ao20, cap20, xs19, rl23, rl24, rl33, rl26, rl27, (Sub.all rfl), fun w' s => (s.select [1, 2, 3, 4, 5, 6, 7, 8, 9] (by decide) rfl), hm⟩
         exact ALs.nil
        exact ALs.nil
       exact ALs.nil
      refine ALs.cons (i := 10) rfl (Runs.free rfl) rfl rfl ?_ ?_
      ·
       have rl32 : RL H encCell ([x13] : List Cell) [(.int .u8 x13.first), (.int .u8 x13.second)] := RL.cons (cs := [(.int .u8 x13.first), (.int .u8 x13.second)]) (xs := []) rfl (RL.nil _ _)
       refine os_buildSlice (cs := [(.int .u8 x13.first), (.int .u8 x13.second)]) (E := 80) (sz := 2) rfl rfl (fun _ => by kernel_rfl) rfl (by decide) (fun b9 => ?_)
       refine ⟨fun w' s => (s.select [1, 7, 9] (by decide) rfl), ?_⟩
       refine AL.any (rs := [5]) (by kernel_rfl) (by decide) ?_
       refine ALs.cons (i := 5) rfl (Runs.free rfl) rfl rfl ?_ ?_
       ·
        refine OQ.step (OV.quiet (ov_load_box (i := 8) isAgg78 rfl rfl rfl rfl)) ?_
        refine ⟨fun w' s => (s.select [1, 7, 9] (by decide) rfl), ?_⟩
        refine AL.any (rs := [11]) (by kernel_rfl) (by decide) ?_
        refine ALs.cons (i := 11) rfl (Runs.free rfl) rfl rfl ?_ ?_
        ·
         obtain ⟨l20, e25, hm⟩ := bind_some hm
         refine os_app (i := 4) (j := 0) (En := encCell) (xs := xs17) (ys := [(.int .u8 x13.first), (.int .u8 x13.second)]) underlying78 (by kernel_rfl : (prog.info? 80).map (fun i => (i.zero, i.size, i.bytes)) = some (some (.agg #[(.int .u8 0), (.int .u8 0)]), (encCell).size, 2)) rfl (by decide) rfl rfl rfl rfl rfl rfl rl25 rl32 e25 (fun ao23 cap23 rl33 => ?_)
         refine ⟨fun w' s => (s.select [1, 7, 9] (by decide) rfl), ?_⟩
         refine TQ 12 (by kernel_rfl) rfl (ov_indexAddr_bsl (j := 2) underlying76 sizeOf78 rfl rfl rfl (eq_of_beq hc10) rfl) ?_
         refine AL.any (rs := [13]) (by kernel_rfl) (by decide) ?_
         refine ALs.cons0 (i := 13) rfl (Runs.free rfl) rfl ?_ ?_
         ·
          refine os_store (i := 8) (vs := [(.slice ao23 (l15 ++ ([x13] : List Cell)).length cap23)]) (cs' := [(.slice ao16 l13.length cap16), (.slice ao17 l14.length cap17), (.slice ao23 (l15 ++ ([x13] : List Cell)).length cap23), (.slice ao19 l16.length cap19), (.slice ao20 l17.length cap20)]) sizeOf78 rfl rfl rfl rfl rfl rfl rfl rfl rfl ?_
          refine ⟨fun w' s => (s.select [1, 7, 9] (by decide) rfl), ?_⟩
          refine AL.done (by kernel_rfl) ?_
          refine bn (tn (WP.region (V rfl (ov_add rfl rfl rfl) (Vm rfl (WL.nil (tn ?_))))))
          exact ⟨(IntKind.wrap .i64 (i4 + 1)), l13, ao16, cap16, xs15, l14, ao17, cap17, xs16, (l15 ++ ([x13] : List Cell)), ao23, cap23, (xs17 ++ [(.int .u8 x13.first), (.int .u8 x13.second)]), l16, ao19, cap19, xs18, l17, ao20, cap20, xs19, rl23, rl24, rl33, rl26, rl27, (Sub.all rfl), fun w' s => (s.select [1, 2, 3, 4, 5, 6, 7, 8, 9] (by decide) rfl), hm⟩
         exact ALs.nil
        exact ALs.nil
       exact ALs.nil
      exact ALs.nil
     replace hm := ite_f hc10 hm
     rcases Bool.eq_false_or_eq_true (i4 == 3) with hc11 | hc11
     ·
      replace hm := ite_t hc11 hm
      refine TQ 4 (by kernel_rfl) rfl (ov_indexAddr_bsl (j := 3) underlying76 sizeOf78 rfl rfl rfl (eq_of_beq hc11) rfl) (TQ 6 (by kernel_rfl) rfl (ov_move rfl rfl) (TQ 7 (by kernel_rfl) rfl (ov_move rfl rfl) ?_))
      obtain ⟨x14, e26, hm⟩ := bind_some hm
      obtain ⟨h84, h85, h86, cs17, h87, h88⟩ := RL.get rl22 e26
      obtain rfl : cs17 = [(.int .u8 x14.first), (.int .u8 x14.second)] := h87
      refine TQ 8 (by kernel_rfl) rfl (ov_indexAddr_own (i := 0) underlying78 sizeOf80 rfl rfl rfl rfl h84 h85) (TQ 9 (by kernel_rfl) rfl (ov_load_owns (i := 0) (vs := [(.int .u8 x14.first), (.int .u8 x14.second)]) isAgg80 sizeOf80 rfl rfl rfl (own_pos h84 h85) rfl (fun j u hu => elem_cell h88 hu)) ?_)
      refine AL.any (rs := [5, 10]) (by kernel_rfl) (by decide) ?_
      refine ALs.cons (i := 5) rfl (Runs.free rfl) rfl rfl ?_ ?_
      ·
       refine OQ.step (OV.quiet (ov_load_box (i := 7) isAgg78 rfl rfl rfl rfl)) ?_
       refine ⟨fun w' s => (s.select [0, 6, 8] (by decide) rfl), ?_⟩
       refine AL.any (rs := [10]) (by kernel_rfl) (by decide) ?_
       refine ALs.cons (i := 10) rfl (Runs.free rfl) rfl rfl ?_ ?_
       ·
        have rl34 : RL H encCell ([x14] : List Cell) [(.int .u8 x14.first), (.int .u8 x14.second)] := RL.cons (cs := [(.int .u8 x14.first), (.int .u8 x14.second)]) (xs := []) rfl (RL.nil _ _)
        refine os_buildSlice (cs := [(.int .u8 x14.first), (.int .u8 x14.second)]) (E := 80) (sz := 2) rfl rfl (fun _ => by kernel_rfl) rfl (by decide) (fun b10 => ?_)
        refine ⟨fun w' s => (s.select [1, 7, 9] (by decide) rfl), ?_⟩
        refine AL.any (rs := [11]) (by kernel_rfl) (by decide) ?_
        refine ALs.cons (i := 11) rfl (Runs.free rfl) rfl rfl ?_ ?_
        ·
         obtain ⟨l21, e27, hm⟩ := bind_some hm
         refine os_app (i := 3) (j := 0) (En := encCell) (xs := xs18) (ys := [(.int .u8 x14.first), (.int .u8 x14.second)]) underlying78 (by kernel_rfl : (prog.info? 80).map (fun i => (i.zero, i.size, i.bytes)) = some (some (.agg #[(.int .u8 0), (.int .u8 0)]), (encCell).size, 2)) rfl (by decide) rfl rfl rfl rfl rfl rfl rl26 rl34 e27 (fun ao24 cap24 rl35 => ?_)
         refine ⟨fun w' s => (s.select [1, 7, 9] (by decide) rfl), ?_⟩
         refine TQ 12 (by kernel_rfl) rfl (ov_indexAddr_bsl (j := 3) underlying76 sizeOf78 rfl rfl rfl (eq_of_beq hc11) rfl) ?_
         refine AL.any (rs := [13]) (by kernel_rfl) (by decide) ?_
         refine ALs.cons0 (i := 13) rfl (Runs.free rfl) rfl ?_ ?_
         ·
          refine os_store (i := 8) (vs := [(.slice ao24 (l16 ++ ([x14] : List Cell)).length cap24)]) (cs' := [(.slice ao16 l13.length cap16), (.slice ao17 l14.length cap17), (.slice ao18 l15.length cap18), (.slice ao24 (l16 ++ ([x14] : List Cell)).length cap24), (.slice ao20 l17.length cap20)]) sizeOf78 rfl rfl rfl rfl rfl rfl rfl rfl rfl ?_
          refine ⟨fun w' s => (s.select [1, 7, 9] (by decide) rfl), ?_⟩
          refine AL.done (by kernel_rfl) ?_
          refine bn (tn (WP.region (V rfl (ov_add rfl rfl rfl) (Vm rfl (WL.nil (tn ?_))))))
          exact ⟨(IntKind.wrap .i64 (i4 + 1)), l13, ao16, cap16, xs15, l14, ao17, cap17, xs16, l15, ao18, cap18, xs17, (l16 ++ ([x14] : List Cell)), ao24, cap24, (xs18 ++ [(.int .u8 x14.first), (.int .u8 x14.second)]), l17, ao20, cap20, xs19, rl23, rl24, rl25, rl35, rl27, (Sub.all rfl), fun w' s => (s.select [1, 2, 3, 4, 5, 6, 7, 8, 9] (by decide) rfl), hm⟩
         exact ALs.nil
        exact ALs.nil
       exact ALs.nil
      refine ALs.cons (i := 10) rfl (Runs.free rfl) rfl rfl ?_ ?_
      ·
       have rl34 : RL H encCell ([x14] : List Cell) [(.int .u8 x14.first), (.int .u8 x14.second)] := RL.cons (cs := [(.int .u8 x14.first), (.int .u8 x14.second)]) (xs := []) rfl (RL.nil _ _)
       refine os_buildSlice (cs := [(.int .u8 x14.first), (.int .u8 x14.second)]) (E := 80) (sz := 2) rfl rfl (fun _ => by kernel_rfl) rfl (by decide) (fun b10 => ?_)
       refine ⟨fun w' s => (s.select [1, 7, 9] (by decide) rfl), ?_⟩
       refine AL.any (rs := [5]) (by kernel_rfl) (by decide) ?_
       refine ALs.cons (i := 5) rfl (Runs.free rfl) rfl rfl ?_ ?_
       ·
        refine OQ.step (OV.quiet (ov_load_box (i := 8) isAgg78 rfl rfl rfl rfl)) ?_
        refine ⟨fun w' s => (s.select [1, 7, 9] (by decide) rfl), ?_⟩
        refine AL.any (rs := [11]) (by kernel_rfl) (by decide) ?_
        refine ALs.cons (i := 11) rfl (Runs.free rfl) rfl rfl ?_ ?_
        ·
         obtain ⟨l21, e27, hm⟩ := bind_some hm
         refine os_app (i := 3) (j := 0) (En := encCell) (xs := xs18) (ys := [(.int .u8 x14.first), (.int .u8 x14.second)]) underlying78 (by kernel_rfl : (prog.info? 80).map (fun i => (i.zero, i.size, i.bytes)) = some (some (.agg #[(.int .u8 0), (.int .u8 0)]), (encCell).size, 2)) rfl (by decide) rfl rfl rfl rfl rfl rfl rl26 rl34 e27 (fun ao24 cap24 rl35 => ?_)
         refine ⟨fun w' s => (s.select [1, 7, 9] (by decide) rfl), ?_⟩
         refine TQ 12 (by kernel_rfl) rfl (ov_indexAddr_bsl (j := 3) underlying76 sizeOf78 rfl rfl rfl (eq_of_beq hc11) rfl) ?_
         refine AL.any (rs := [13]) (by kernel_rfl) (by decide) ?_
         refine ALs.cons0 (i := 13) rfl (Runs.free rfl) rfl ?_ ?_
         ·
          refine os_store (i := 8) (vs := [(.slice ao24 (l16 ++ ([x14] : List Cell)).length cap24)]) (cs' := [(.slice ao16 l13.length cap16), (.slice ao17 l14.length cap17), (.slice ao18 l15.length cap18), (.slice ao24 (l16 ++ ([x14] : List Cell)).length cap24), (.slice ao20 l17.length cap20)]) sizeOf78 rfl rfl rfl rfl rfl rfl rfl rfl rfl ?_
          refine ⟨fun w' s => (s.select [1, 7, 9] (by decide) rfl), ?_⟩
          refine AL.done (by kernel_rfl) ?_
          refine bn (tn (WP.region (V rfl (ov_add rfl rfl rfl) (Vm rfl (WL.nil (tn ?_))))))
          exact ⟨(IntKind.wrap .i64 (i4 + 1)), l13, ao16, cap16, xs15, l14, ao17, cap17, xs16, l15, ao18, cap18, xs17, (l16 ++ ([x14] : List Cell)), ao24, cap24, (xs18 ++ [(.int .u8 x14.first), (.int .u8 x14.second)]), l17, ao20, cap20, xs19, rl23, rl24, rl25, rl35, rl27, (Sub.all rfl), fun w' s => (s.select [1, 2, 3, 4, 5, 6, 7, 8, 9] (by decide) rfl), hm⟩
         exact ALs.nil
        exact ALs.nil
       exact ALs.nil
      exact ALs.nil
     replace hm := ite_f hc11 hm
     rcases Bool.eq_false_or_eq_true (i4 == 4) with hc12 | hc12
     ·
      replace hm := ite_t hc12 hm
      refine TQ 4 (by kernel_rfl) rfl (ov_indexAddr_bsl (j := 4) underlying76 sizeOf78 rfl rfl rfl (eq_of_beq hc12) rfl) (TQ 6 (by kernel_rfl) rfl (ov_move rfl rfl) (TQ 7 (by kernel_rfl) rfl (ov_move rfl rfl) ?_))
      obtain ⟨x15, e28, hm⟩ := bind_some hm
      obtain ⟨h89, h90, h91, cs18, h92, h93⟩ := RL.get rl22 e28
      obtain rfl : cs18 = [(.int .u8 x15.first), (.int .u8 x15.second)] := h92
      refine TQ 8 (by kernel_rfl) rfl (ov_indexAddr_own (i := 0) underlying78 sizeOf80 rfl rfl rfl rfl h89 h90) (TQ 9 (by kernel_rfl) rfl (ov_load_owns (i := 0) (vs := [(.int .u8 x15.first), (.int .u8 x15.second)]) isAgg80 sizeOf80 rfl rfl rfl (own_pos h89 h90) rfl (fun j u hu => elem_cell h93 hu)) ?_)
      refine AL.any (rs := [5, 10]) (by kernel_rfl) (by decide) ?_
      refine ALs.cons (i := 5) rfl (Runs.free rfl) rfl rfl ?_ ?_
      ·
       refine OQ.step (OV.quiet (ov_load_box (i := 7) isAgg78 rfl rfl rfl rfl)) ?_
       refine ⟨fun w' s => (s.select [0, 6, 8] (by decide) rfl), ?_⟩
       refine AL.any (rs := [10]) (by kernel_rfl) (by decide) ?_
       refine ALs.cons (i := 10) rfl (Runs.free rfl) rfl rfl ?_ ?_
       ·
        have rl36 : RL H encCell ([x15] : List Cell) [(.int .u8 x15.first), (.int .u8 x15.second)] := RL.cons (cs := [(.int .u8 x15.first), (.int .u8 x15.second)]) (xs := []) rfl (RL.nil _ _)
        refine os_buildSlice (cs := [(.int .u8 x15.first), (.int .u8 x15.second)]) (E := 80) (sz := 2) rfl rfl (fun _ => by kernel_rfl) rfl (by decide) (fun b11 => ?_)
        refine ⟨fun w' s => (s.select [1, 7, 9] (by decide) rfl), ?_⟩
        refine AL.any (rs := [11]) (by kernel_rfl) (by decide) ?_
        refine ALs.cons (i := 11) rfl (Runs.free rfl) rfl rfl ?_ ?_
        ·
         obtain ⟨l22, e29, hm⟩ := bind_some hm
         refine os_app (i := 2) (j := 0) (En := encCell) (xs := xs19) (ys := [(.int .u8 x15.first), (.int .u8 x15.second)]) underlying78 (by kernel_rfl : (prog.info? 80).map (fun i => (i.zero, i.size, i.bytes)) = some (some (.agg #[(.int .u8 0), (.int .u8 0)]), (encCell).size, 2)) rfl (by decide) rfl rfl rfl rfl rfl rfl rl27 rl36 e29 (fun ao25 cap25 rl37 => ?_)
         refine ⟨fun w' s => (s.select [1, 7, 9] (by decide) rfl), ?_⟩
         refine TQ 12 (by kernel_rfl) rfl (ov_indexAddr_bsl (j := 4) underlying76 sizeOf78 rfl rfl rfl (eq_of_beq hc12) rfl) ?_
         refine AL.any (rs := [13]) (by kernel_rfl) (by decide) ?_
         refine ALs.cons0 (i := 13) rfl (Runs.free rfl) rfl ?_ ?_
         ·
          refine os_store (i := 8) (vs := [(.slice ao25 (l17 ++ ([x15] : List Cell)).length cap25)]) (cs' := [(.slice ao16 l13.length cap16), (.slice ao17 l14.length cap17), (.slice ao18 l15.length cap18), (.slice ao19 l16.length cap19), (.slice ao25 (l17 ++ ([x15] : List Cell)).length cap25)]) sizeOf78 rfl rfl rfl rfl rfl rfl rfl rfl rfl ?_
          refine ⟨fun w' s => (s.select [1, 7, 9] (by decide) rfl), ?_⟩
          refine AL.done (by kernel_rfl) ?_
          refine bn (tn (WP.region (V rfl (ov_add rfl rfl rfl) (Vm rfl (WL.nil (tn ?_))))))
          exact ⟨(IntKind.wrap .i64 (i4 + 1)), l13, ao16, cap16, xs15, l14, ao17, cap17, xs16, l15, ao18, cap18, xs17, l16, ao19, cap19, xs18, (l17 ++ ([x15] : List Cell)), ao25, cap25, (xs19 ++ [(.int .u8 x15.first), (.int .u8 x15.second)]), rl23, rl24, rl25, rl26, rl37, (Sub.all rfl), fun w' s => (s.select [1, 2, 3, 4, 5, 6, 7, 8, 9] (by decide) rfl), hm⟩
         exact ALs.nil
        exact ALs.nil
       exact ALs.nil
      refine ALs.cons (i := 10) rfl (Runs.free rfl) rfl rfl ?_ ?_
      ·
       have rl36 : RL H encCell ([x15] : List Cell) [(.int .u8 x15.first), (.int .u8 x15.second)] := RL.cons (cs := [(.int .u8 x15.first), (.int .u8 x15.second)]) (xs := []) rfl (RL.nil _ _)
       refine os_buildSlice (cs := [(.int .u8 x15.first), (.int .u8 x15.second)]) (E := 80) (sz := 2) rfl rfl (fun _ => by kernel_rfl) rfl (by decide) (fun b11 => ?_)
       refine ⟨fun w' s => (s.select [1, 7, 9] (by decide) rfl), ?_⟩
       refine AL.any (rs := [5]) (by kernel_rfl) (by decide) ?_
       refine ALs.cons (i := 5) rfl (Runs.free rfl) rfl rfl ?_ ?_
       ·
        refine OQ.step (OV.quiet (ov_load_box (i := 8) isAgg78 rfl rfl rfl rfl)) ?_
        refine ⟨fun w' s => (s.select [1, 7, 9] (by decide) rfl), ?_⟩
        refine AL.any (rs := [11]) (by kernel_rfl) (by decide) ?_
        refine ALs.cons (i := 11) rfl (Runs.free rfl) rfl rfl ?_ ?_
        ·
         obtain ⟨l22, e29, hm⟩ := bind_some hm
         refine os_app (i := 2) (j := 0) (En := encCell) (xs := xs19) (ys := [(.int .u8 x15.first), (.int .u8 x15.second)]) underlying78 (by kernel_rfl : (prog.info? 80).map (fun i => (i.zero, i.size, i.bytes)) = some (some (.agg #[(.int .u8 0), (.int .u8 0)]), (encCell).size, 2)) rfl (by decide) rfl rfl rfl rfl rfl rfl rl27 rl36 e29 (fun ao25 cap25 rl37 => ?_)
         refine ⟨fun w' s => (s.select [1, 7, 9] (by decide) rfl), ?_⟩
         refine TQ 12 (by kernel_rfl) rfl (ov_indexAddr_bsl (j := 4) underlying76 sizeOf78 rfl rfl rfl (eq_of_beq hc12) rfl) ?_
         refine AL.any (rs := [13]) (by kernel_rfl) (by decide) ?_
         refine ALs.cons0 (i := 13) rfl (Runs.free rfl) rfl ?_ ?_
         ·
          refine os_store (i := 8) (vs := [(.slice ao25 (l17 ++ ([x15] : List Cell)).length cap25)]) (cs' := [(.slice ao16 l13.length cap16), (.slice ao17 l14.length cap17), (.slice ao18 l15.length cap18), (.slice ao19 l16.length cap19), (.slice ao25 (l17 ++ ([x15] : List Cell)).length cap25)]) sizeOf78 rfl rfl rfl rfl rfl rfl rfl rfl rfl ?_
          refine ⟨fun w' s => (s.select [1, 7, 9] (by decide) rfl), ?_⟩
          refine AL.done (by kernel_rfl) ?_
          refine bn (tn (WP.region (V rfl (ov_add rfl rfl rfl) (Vm rfl (WL.nil (tn ?_))))))
          exact ⟨(IntKind.wrap .i64 (i4 + 1)), l13, ao16, cap16, xs15, l14, ao17, cap17, xs16, l15, ao18, cap18, xs17, l16, ao19, cap19, xs18, (l17 ++ ([x15] : List Cell)), ao25, cap25, (xs19 ++ [(.int .u8 x15.first), (.int .u8 x15.second)]), rl23, rl24, rl25, rl26, rl37, (Sub.all rfl), fun w' s => (s.select [1, 2, 3, 4, 5, 6, 7, 8, 9] (by decide) rfl), hm⟩
         exact ALs.nil
        exact ALs.nil
       exact ALs.nil
      exact ALs.nil
     replace hm := ite_f hc12 hm
     exact (none_some hm).elim
    replace hm := ite_f hc7 hm
    refine WP.exit (then_exit (then_exit (block_here (bn (tn ?_)))))
    exact ⟨l11, ao14, cap14, xs13, l13, ao16, cap16, xs15, l14, ao17, cap17, xs16, l15, ao18, cap18, xs17, l16, ao19, cap19, xs18, l17, ao20, cap20, xs19, rl21, rl23, rl24, rl25, rl26, rl27, (Sub.all rfl), fun w' s => (s.select [1, 2, 3, 4, 5, 6, 7, 8] (by decide) rfl), hm⟩
   rintro g' S' ⟨l23, ao26, cap26, xs20, l24, ao27, cap27, xs21, l25, ao28, cap28, xs22, l26, ao29, cap29, xs23, l27, ao30, cap30, xs24, l28, ao31, cap31, xs25, rl38, rl39, rl40, rl41, rl42, rl43, hsub7, hS7, hm⟩
   refine WP.sub hsub7 (WP.weaken hS7 ?_)
   replace hm := (congrFun (congrFun (congrFun (congrFun (congrFun (congrFun hk2 l23) l24) l25) l26) l27) l28).symm.trans hm
   refine WP.region (V rfl (ov_add rfl rfl rfl) (Vm rfl (WL.nil (tn ?_))))
   exact ⟨(IntKind.wrap .i64 (i1 + 1)), l23, ao26, cap26, xs20, l24, ao27, cap27, xs21, l25, ao28, cap28, xs22, l26, ao29, cap29, xs23, l27, ao30, cap30, xs24, l28, ao31, cap31, xs25, rl38, rl39, rl40, rl41, rl42, rl43, (Sub.all rfl), fun w' s => s, hm⟩
  replace hm := ite_f hc3 hm
  refine WP.exit (then_exit (then_exit (block_here (tn ?_))))
  exact ⟨l2, ao4, cap4, xs3, l3, ao5, cap5, xs4, l4, ao6, cap6, xs5, l5, ao7, cap7, xs6, l6, ao8, cap8, xs7, rl8, rl9, rl10, rl11, rl12, (Sub.all rfl), fun w' s => (s.select [0, 1, 2, 3, 4, 6] (by decide) rfl), hm⟩
 rintro g' S' ⟨l29, ao32, cap32, xs26, l30, ao33, cap33, xs27, l31, ao34, cap34, xs28, l32, ao35, cap35, xs29, l33, ao36, cap36, xs30, rl44, rl45, rl46, rl47, rl48, hsub8, hS8, hm⟩
 refine WP.sub hsub8 (WP.weaken hS8 ?_)
 replace hm := (congrFun (congrFun (congrFun (congrFun (congrFun hk1 l29) l30) l31) l32) l33).symm.trans hm
 refine WP.seq (WP.region (Vm rfl ?_))
 refine WL.weaken (fun _ s => s.select [4, 0, 1, 2, 3, 5] (by decide) rfl) ?_
 refine WL.held rl44 (fun H1 hc13 hle1 h94 => ?_)
 replace rl48 := rl48.mono hle1
 replace rl47 := rl47.mono hle1
 replace rl46 := rl46.mono hle1
 replace rl45 := rl45.mono hle1
 refine WL.weaken (fun _ s => s.select [3, 0, 1, 2, 4] (by decide) rfl) ?_
 refine WL.held rl45 (fun H2 hc14 hle2 h95 => ?_)
 replace rl48 := rl48.mono hle2
 replace rl47 := rl47.mono hle2
 replace rl46 := rl46.mono hle2
 replace h94 := h94.mono hle2
 refine WL.weaken (fun _ s => s.select [2, 0, 1, 3] (by decide) rfl) ?_
 refine WL.held rl46 (fun H3 hc15 hle3 h96 => ?_)
 replace rl48 := rl48.mono hle3
 replace rl47 := rl47.mono hle3
 replace h94 := h94.mono hle3
 replace h95 := h95.mono hle3
 refine WL.weaken (fun _ s => s.select [1, 0, 2] (by decide) rfl) ?_
 refine WL.held rl47 (fun H4 hc16 hle4 h97 => ?_)
 replace rl48 := rl48.mono hle4
 replace h94 := h94.mono hle4
 replace h95 := h95.mono hle4
 replace h96 := h96.mono hle4
 refine WL.held rl48 (fun H5 hc17 hle5 h98 => ?_)
 replace h94 := h94.mono hle5
 replace h95 := h95.mono hle5
 replace h96 := h96.mono hle5
 replace h97 := h97.mono hle5
 have rl49 : RL H5 (encSl encCell) ([l29, l30, l31, l32, l33] : List (List Cell)) [(.slice ao32 l29.length cap32), (.slice ao33 l30.length cap33), (.slice ao34 l31.length cap34), (.slice ao35 l32.length cap35), (.slice ao36 l33.length cap36)] := RL.cons (cs := [(.slice ao32 l29.length cap32)]) (xs := [(.slice ao33 l30.length cap33), (.slice ao34 l31.length cap34), (.slice ao35 l32.length cap35), (.slice ao36 l33.length cap36)]) ⟨ao32, cap32, rfl, h94, hc13⟩ (RL.cons (cs := [(.slice ao33 l30.length cap33)]) (xs := [(.slice ao34 l31.length cap34), (.slice ao35 l32.length cap35), (.slice ao36 l33.length cap36)]) ⟨ao33, cap33, rfl, h95, hc14⟩ (RL.cons (cs := [(.slice ao34 l31.length cap34)]) (xs := [(.slice ao35 l32.length cap35), (.slice ao36 l33.length cap36)]) ⟨ao34, cap34, rfl, h96, hc15⟩ (RL.cons (cs := [(.slice ao35 l32.length cap35)]) (xs := [(.slice ao36 l33.length cap36)]) ⟨ao35, cap35, rfl, h97, hc16⟩ (RL.cons (cs := [(.slice ao36 l33.length cap36)]) (xs := []) ⟨ao36, cap36, rfl, h98, hc17⟩ (RL.nil _ _)))))
 refine WL.weaken (fun _ s => s.blk_rowN (N := 5) (sz := 1) rfl (by decide)) ?_
 refine Va rfl (WL.nil (tn (WP.ret ?_)))
 obtain rfl := Option.some.inj hm
 refine retQ_ret results43 (Res.tmp rfl Res.nil) rfl (fun w' s => ⟨s.below, ?_⟩)
 obtain ⟨h99, hc18⟩ := s.ret_row (i := 0) rfl rl49
 exact ⟨(some ⟨b2, 0, none⟩), 5, rfl, h99, hc18⟩
theorem diagram_cells6_con (p_s : Sequence) (ao1 : Option Addr) (cap1 : Nat) (w : World) (H : Heap) (hH : Le H (hp w)) (h1 : SL H encStep ao1 p_s.steps) (hc1 : p_s.steps.length ≤ cap1) (hG : Glob H) (hn : (p_s.actuators == 6) = true) (r : (List (List Cell))) (hm : diagram_cells6 p_s = some r) :
  Con prog 43 [(.agg #[(.int .i64 p_s.actuators), (.slice ao1 p_s.steps.length cap1)])] w H (fun v H' => ∃ (ao2 : Option Addr) (cap2 : Nat), v = (.slice ao2 r.length cap2) ∧ SL H' (encSl encCell) ao2 r ∧ r.length ≤ cap2) := by
 unfold diagram_cells6 at hm
 refine con_of hH func43 rfl 99 ntmps43 rfl ?_
 refine WP.seq (WP.region ?_)
 refine ws rfl (os_box (cs := [(.int .i64 p_s.actuators), (.slice ao1 p_s.steps.length cap1)]) rfl rfl rfl (fun b1 => ?_))
 refine Va rfl (WL.nil (tn (WP.seq (WP.region (V rfl (ov_fieldAddr underlying24 rfl rfl rfl sizeOf3 rfl rfl) (Vl 0 isAgg3 rfl ?_))))))
 refine ws rfl (os_makeSlice_n (N := 6) (sz := 1) (bytes := 24) (z := (.slice none 0 0)) (cs := [(.slice none 0 0), (.slice none 0 0), (.slice none 0 0), (.slice none 0 0), (.slice none 0 0), (.slice none 0 0)]) underlying76 (by kernel_rfl) (by kernel_rfl) rfl rfl rfl (eq_of_beq hn) (by decide) (by decide) (fun b2 => ?_))
 refine Va rfl (WL.nil (tn (WP.seq (WP.region (V rfl (ov_fieldAddr underlying24 rfl rfl rfl sizeOf3 rfl rfl) (Vl 1 isAgg3 rfl ?_))))))
 obtain ⟨u1, e1, hm⟩ := bind_some hm
 replace e1 := guardO_some e1
 refine ws rfl (os_makeSlice (En := encBool) (z := (.bool false)) (y0 := false) (bytes := 1) underlying49 (by kernel_rfl) rfl (by decide) rfl rfl rfl e1 (fun b3 xs1 rl1 => ?_))
 refine Va rfl (WL.nil (tn ?_))
 obtain ⟨k1, hk1, hm⟩ := joinK_some hm
 refine WP.seq_join (fun g' S' => ∃ (l33 : (List Cell)) (ao36 : Option Addr) (cap36 : Nat) (xs29 : List Value) (l34 : (List Cell)) (ao37 : Option Addr) (cap37 : Nat) (xs30 : List Value) (l35 : (List Cell)) (ao38 : Option Addr) (cap38 : Nat) (xs31 : List Value) (l36 : (List Cell)) (ao39 : Option Addr) (cap39 : Nat) (xs32 : List Value) (l37 : (List Cell)) (ao40 : Option Addr) (cap40 : Nat) (xs33 : List Value) (l38 : (List Cell)) (ao41 : Option Addr) (cap41 : Nat) (xs34 : List Value), RL H encCell l33 xs29 ∧ RL H encCell l34 xs30 ∧ RL H encCell l35 xs31 ∧ RL H encCell l36 xs32 ∧ RL H encCell l37 xs33 ∧ RL H encCell l38 xs34 ∧ Sub [(3, (.slice (some ⟨b2, 0, none⟩) 6 6)), (1000000007, (.bool false))] g' ∧ (∀ w', S' w' → St w H [.row 80 (encCell).size l38.length (.slice ao41 l38.length cap41) xs34, .row 80 (encCell).size l37.length (.slice ao40 l37.length cap40) xs33, .row 80 (encCell).size l36.length (.slice ao39 l36.length cap39) xs32, .row 80 (encCell).size l35.length (.slice ao38 l35.length cap38) xs31, .row 80 (encCell).size l34.length (.slice ao37 l34.length cap37) xs30, .row 80 (encCell).size l33.length (.slice ao36 l33.length cap36) xs29, .blk b2 78 [(.slice ao36 l33.length cap36), (.slice ao37 l34.length cap37), (.slice ao38 l35.length cap38), (.slice ao39 l36.length cap39), (.slice ao40 l37.length cap40), (.slice ao41 l38.length cap41)]] H w') ∧ k1 l33 l34 l35 l36 l37 l38 = some r) ?_ ?_
 ·
  refine WP.seq (WP.region (V rfl (ov_fieldAddr underlying24 rfl rfl rfl sizeOf22 rfl rfl) (Vl 2 isAgg22 rfl (V rfl (ov_len_slice underlying22 rfl rfl) (Vm rfl (WL.nil (tn (WP.block ?_))))))))
  have rl2 := RL.nil (α := Cell) H encCell
  refine WP.weaken (fun _ s => s.nilrow 80 (encCell).size) ?_
  have rl3 := RL.nil (α := Cell) H encCell
  refine WP.weaken (fun _ s => s.nilrow 80 (encCell).size) ?_
  have rl4 := RL.nil (α := Cell) H encCell
  refine WP.weaken (fun _ s => s.nilrow 80 (encCell).size) ?_
  have rl5 := RL.nil (α := Cell) H encCell
  refine WP.weaken (fun _ s => s.nilrow 80 (encCell).size) ?_
  have rl6 := RL.nil (α := Cell) H encCell
  refine WP.weaken (fun _ s => s.nilrow 80 (encCell).size) ?_
  have rl7 := RL.nil (α := Cell) H encCell
  refine WP.weaken (fun _ s => s.nilrow 80 (encCell).size) ?_
  refine WP.loop (fun m1 g' S' => ∃ (i1 : Int) (l1 : (List Bool)) (ao3 : Option Addr) (cap3 : Nat) (xs2 : List Value) (l2 : (List Cell)) (ao4 : Option Addr) (cap4 : Nat) (xs3 : List Value) (l3 : (List Cell)) (ao5 : Option Addr) (cap5 : Nat) (xs4 : List Value) (l4 : (List Cell)) (ao6 : Option Addr) (cap6 : Nat) (xs5 : List Value) (l5 : (List Cell)) (ao7 : Option Addr) (cap7 : Nat) (xs6 : List Value) (l6 : (List Cell)) (ao8 : Option Addr) (cap8 : Nat) (xs7 : List Value) (l7 : (List Cell)) (ao9 : Option Addr) (cap9 : Nat) (xs8 : List Value), RL H encBool l1 xs2 ∧ RL H encCell l2 xs3 ∧ RL H encCell l3 xs4 ∧ RL H encCell l4 xs5 ∧ RL H encCell l5 xs6 ∧ RL H encCell l6 xs7 ∧ RL H encCell l7 xs8 ∧ Sub [(1, (pB b1 0)), (3, (.slice (some ⟨b2, 0, none⟩) 6 6)), (4, (.slice ao3 l1.length cap3)), (20, (.slice ao1 p_s.steps.length cap1)), (21, (.int .i64 (p_s.steps.length : Int))), (22, (.int .i64 i1)), (1000000007, (.bool false))] g' ∧ (∀ w', S' w' → St w H [.row 80 (encCell).size l7.length (.slice ao9 l7.length cap9) xs8, .row 80 (encCell).size l6.length (.slice ao8 l6.length cap8) xs7, .row 80 (encCell).size l5.length (.slice ao7 l5.length cap7) xs6, .row 80 (encCell).size l4.length (.slice ao6 l4.length cap6) xs5, .row 80 (encCell).size l3.length (.slice ao5 l3.length cap5) xs4, .row 80 (encCell).size l2.length (.slice ao4 l2.length cap4) xs3, .row 4 (encBool).size l1.length (.slice ao3 l1.length cap3) xs2, .blk b2 78 [(.slice ao4 l2.length cap4), (.slice ao5 l3.length cap5), (.slice ao6 l4.length cap6), (.slice ao7 l5.length cap7), (.slice ao8 l6.length cap8), (.slice ao9 l7.length cap9)], .blk b1 24 [(.int .i64 p_s.actuators), (.slice ao1 p_s.steps.length cap1)]] H w') ∧ diagram_cells6_loop1 p_s k1 m1 i1 l1 l2 l3 l4 l5 l6 l7 = some r) ((Int.toNat ((p_s.steps.length : Int) - 0) + 1)) ⟨0, (List.replicate (Int.toNat p_s.actuators) false), (some ⟨b3, 0, none⟩), (Int.toNat p_s.actuators), xs1, ([] : List Cell), none, 0, [], ([] : List Cell), none, 0, [], ([] : List Cell), none, 0, [], ([] : List Cell), none, 0, [], ([] : List Cell), none, 0, [], ([] : List Cell), none, 0, [], rl1, rl2, rl3, rl4, rl5, rl6, rl7, (Sub.all rfl), fun w' s => s, hm⟩ ?_ ?_
  ·
   rintro g' S' ⟨_, _, _, _, _, _, _, _, _, _, _, _, _, _, _, _, _, _, _, _, _, _, _, _, _, _, _, _, _, _, _, _, _, _, _, _, _, _, hm⟩
   exact none_some hm
  rintro m1 g' S' ⟨i1, l1, ao3, cap3, xs2, l2, ao4, cap4, xs3, l3, ao5, cap5, xs4, l4, ao6, cap6, xs5, l5, ao7, cap7, xs6, l6, ao8, cap8, xs7, l7, ao9, cap9, xs8, rl8, rl9, rl10, rl11, rl12, rl13, rl14, hsub1, hS1, hm⟩
  refine WP.sub hsub1 (WP.weaken hS1 ?_)
  rw [diagram_cells6_loop1] at hm
  refine WP.seq (WP.region (V rfl (ov_lss rfl rfl rfl) (WL.nil (tn (WP.seq ?_)))))
  refine WP.cond rfl (fun hc3 => ?_) (fun hc3 => ?_)
  ·
   replace hm := ite_t hc3 hm
   refine WP.skip (tn ?_)
   obtain ⟨k2, hk2, hm⟩ := joinK_some hm
   refine WP.seq_join (fun g' S' => ∃ (l26 : (List Bool)) (ao29 : Option Addr) (cap29 : Nat) (xs22 : List Value) (l27 : (List Cell)) (ao30 : Option Addr) (cap30 : Nat) (xs23 : List Value) (l28 : (List Cell)) (ao31 : Option Addr) (cap31 : Nat) (xs24 : List Value) (l29 : (List Cell)) (ao32 : Option Addr) (cap32 : Nat) (xs25 : List Value) (l30 : (List Cell)) (ao33 : Option Addr) (cap33 : Nat) (xs26 : List Value) (l31 : (List Cell)) (ao34 : Option Addr) (cap34 : Nat) (xs27 : List Value) (l32 : (List Cell)) (ao35 : Option Addr) (cap35 : Nat) (xs28 : List Value), RL H encBool l26 xs22 ∧ RL H encCell l27 xs23 ∧ RL H encCell l28 xs24 ∧ RL H encCell l29 xs25 ∧ RL H encCell l30 xs26 ∧ RL H encCell l31 xs27 ∧ RL H encCell l32 xs28 ∧ Sub [(1, (pB b1 0)), (3, (.slice (some ⟨b2, 0, none⟩) 6 6)), (4, (.slice ao29 l26.length cap29)), (20, (.slice ao1 p_s.steps.length cap1)), (21, (.int .i64 (p_s.steps.length : Int))), (22, (.int .i64 i1)), (1000000007, (.bool false))] g' ∧ (∀ w', S' w' → St w H [.row 80 (encCell).size l32.length (.slice ao35 l32.length cap35) xs28, .row 80 (encCell).size l31.length (.slice ao34 l31.length cap34) xs27, .row 80 (encCell).size l30.length (.slice ao33 l30.length cap33) xs26, .row 80 (encCell).size l29.length (.slice ao32 l29.length cap32) xs25, .row 80 (encCell).size l28.length (.slice ao31 l28.length cap31) xs24, .row 80 (encCell).size l27.length (.slice ao30 l27.length cap30) xs23, .row 4 (encBool).size l26.length (.slice ao29 l26.length cap29) xs22, .blk b2 78 [(.slice ao30 l27.length cap30), (.slice ao31 l28.length cap31), (.slice ao32 l29.length cap32), (.slice ao33 l30.length cap33), (.slice ao34 l31.length cap34), (.slice ao35 l32.length cap35)], .blk b1 24 [(.int .i64 p_s.actuators), (.slice ao1 p_s.steps.length cap1)]] H w') ∧ k2 l26 l27 l28 l29 l30 l31 l32 = some r) ?_ ?_
   ·
    refine WP.block (WP.seq (WP.region ?_))
    obtain ⟨x1, e2, hm⟩ := bind_some hm
    obtain ⟨h4, h5, h6, cs1, h7, h8⟩ := h1.get e2 (by decide)
    obtain ⟨ao10, cap10, rfl, h3, hc4⟩ := h7
    refine V rfl (ov_indexAddr underlying22 sizeOf45 rfl rfl rfl h4 h5 h6) (V rfl (ov_load_elems (vs := [(.slice ao10 x1.strokes.length cap10), (.int .i64 x1.wait)]) isAgg45 sizeOf45 rfl rfl rfl h8 h6) ?_)
    refine ws rfl (os_alloc (cs := [(.slice none 0 0), (.int .i64 0)]) zeroValue45 rfl rfl (fun b4 => ?_))
    refine ws0 rfl (os_store (i := 0) (vs := [(.slice ao10 x1.strokes.length cap10), (.int .i64 x1.wait)]) (cs' := [(.slice ao10 x1.strokes.length cap10), (.int .i64 x1.wait)]) sizeOf45 rfl rfl rfl rfl rfl rfl rfl rfl rfl ?_)
    refine WL.nil (tn (WP.seq (WP.region (V rfl (ov_fieldAddr underlying24 rfl rfl rfl sizeOf3 rfl rfl) (Vl 9 isAgg3 rfl ?_)))))
    obtain ⟨u2, e3, hm⟩ := bind_some hm
    replace e3 := guardO_some e3
    refine ws rfl (os_makeSlice (En := encCell) (z := (.agg #[(.int .u8 0), (.int .u8 0)])) (y0 := (Cell.mk 0 0)) (bytes := 2) underlying78 (by kernel_rfl) rfl (by decide) rfl rfl rfl e3 (fun b5 xs9 rl15 => ?_))
    refine Va rfl (WL.nil (tn ?_))
    obtain ⟨k3, hk3, hm⟩ := joinK_some hm
    refine WP.seq_join (fun g' S' => ∃ (l9 : (List Cell)) (ao12 : Option Addr) (cap12 : Nat) (xs11 : List Value), RL H encCell l9 xs11 ∧ Sub [(1, (pB b1 0)), (3, (.slice (some ⟨b2, 0, none⟩) 6 6)), (4, (.slice ao3 l1.length cap3)), (6, (pB b4 0)), (7, (.slice ao12 l9.length cap12)), (20, (.slice ao1 p_s.steps.length cap1)), (21, (.int .i64 (p_s.steps.length : Int))), (22, (.int .i64 i1)), (1000000007, (.bool false))] g' ∧ (∀ w', S' w' → St w H [.row 80 (encCell).size l9.length (.slice ao12 l9.length cap12) xs11, .blk b4 45 [(.slice ao10 x1.strokes.length cap10), (.int .i64 x1.wait)], .row 80 (encCell).size l7.length (.slice ao9 l7.length cap9) xs8, .row 80 (encCell).size l6.length (.slice ao8 l6.length cap8) xs7, .row 80 (encCell).size l5.length (.slice ao7 l5.length cap7) xs6, .row 80 (encCell).size l4.length (.slice ao6 l4.length cap6) xs5, .row 80 (encCell).size l3.length (.slice ao5 l3.length cap5) xs4, .row 80 (encCell).size l2.length (.slice ao4 l2.length cap4) xs3, .row 4 (encBool).size l1.length (.slice ao3 l1.length cap3) xs2, .blk b2 78 [(.slice ao4 l2.length cap4), (.slice ao5 l3.length cap5), (.slice ao6 l4.length cap6), (.slice ao7 l5.length cap7), (.slice ao8 l6.length cap8), (.slice ao9 l7.length cap9)], .blk b1 24 [(.int .i64 p_s.actuators), (.slice ao1 p_s.steps.length cap1)]] H w') ∧ k3 l9 = some r) ?_ ?_
    ·
     refine WP.seq (WP.region (Vm rfl (V rfl (ov_len_slice underlying49 rfl rfl) (Vm rfl (WL.nil (tn (WP.block ?_)))))))
     refine WP.loop (fun m2 g' S' => ∃ (i2 : Int) (l8 : (List Cell)) (ao11 : Option Addr) (cap11 : Nat) (xs10 : List Value), RL H encCell l8 xs10 ∧ Sub [(1, (pB b1 0)), (3, (.slice (some ⟨b2, 0, none⟩) 6 6)), (4, (.slice ao3 l1.length cap3)), (6, (pB b4 0)), (7, (.slice ao11 l8.length cap11)), (20, (.slice ao1 p_s.steps.length cap1)), (21, (.int .i64 (p_s.steps.length : Int))), (22, (.int .i64 i1)), (29, (.slice ao3 l1.length cap3)), (30, (.int .i64 (l1.length : Int))), (31, (.int .i64 i2)), (1000000007, (.bool false))] g' ∧ (∀ w', S' w' → St w H [.row 80 (encCell).size l8.length (.slice ao11 l8.length cap11) xs10, .blk b4 45 [(.slice ao10 x1.strokes.length cap10), (.int .i64 x1.wait)], .row 80 (encCell).size l7.length (.slice ao9 l7.length cap9) xs8, .row 80 (encCell).size l6.length (.slice ao8 l6.length cap8) xs7, .row 80 (encCell).size l5.length (.slice ao7 l5.length cap7) xs6, .row 80 (encCell).size l4.length (.slice ao6 l4.length cap6) xs5, .row 80 (encCell).size l3.length (.slice ao5 l3.length cap5) xs4, .row 80 (encCell).size l2.length (.slice ao4 l2.length cap4) xs3, .row 4 (encBool).size l1.length (.slice ao3 l1.length cap3) xs2, .blk b2 78 [(.slice ao4 l2.length cap4), (.slice ao5 l3.length cap5), (.slice ao6 l4.length cap6), (.slice ao7 l5.length cap7), (.slice ao8 l6.length cap8), (.slice ao9 l7.length cap9)], .blk b1 24 [(.int .i64 p_s.actuators), (.slice ao1 p_s.steps.length cap1)]] H w') ∧ diagram_cells1_loop2 l1 k3 m2 i2 l8 = some r) ((Int.toNat ((l1.length : Int) - 0) + 1)) ⟨0, (List.replicate (Int.toNat p_s.actuators) (Cell.mk 0 0)), (some ⟨b5, 0, none⟩), (Int.toNat p_s.actuators), xs9, rl15, (Sub.all rfl), fun w' s => s, hm⟩ ?_ ?_
     ·
      rintro g' S' ⟨_, _, _, _, _, _, _, _, hm⟩
      exact none_some hm
     rintro m2 g' S' ⟨i2, l8, ao11, cap11, xs10, rl16, hsub2, hS2, hm⟩
     refine WP.sub hsub2 (WP.weaken hS2 ?_)
     rw [diagram_cells1_loop2] at hm
     refine WP.seq (WP.region (V rfl (ov_lss rfl rfl rfl) (WL.nil (tn (WP.seq ?_)))))
     refine WP.cond rfl (fun hc5 => ?_) (fun hc5 => ?_)
     ·
      replace hm := ite_t hc5 hm
      refine WP.skip (tn (WP.seq (WP.block (WP.seq (WP.region (Vm rfl ?_))))))
      obtain ⟨x2, e4, hm⟩ := bind_some hm
      obtain ⟨h9, h10, h11, cs2, h12, h13⟩ := RL.get rl8 e4
      obtain rfl : cs2 = [(.bool x2)] := h12
      refine V rfl (ov_indexAddr_own (i := 8) underlying49 sizeOf4 rfl rfl rfl rfl h9 h10) (V rfl (ov_load_own (i := 8) isAgg4 rfl rfl rfl (own_pos h9 h10) (elem_cell h13 (off := 0) rfl)) (Va rfl (Va rfl (WL.nil (tn ?_)))))
      refine WP.region_any (S₀ := St w H [.blk b4 45 [(.slice ao10 x1.strokes.length cap10), (.int .i64 x1.wait)], .row 80 (encCell).size l7.length (.slice ao9 l7.length cap9) xs8, .row 80 (encCell).size l6.length (.slice ao8 l6.length cap8) xs7, .row 80 (encCell).size l5.length (.slice ao7 l5.length cap7) xs6, .row 80 (encCell).size l4.length (.slice ao6 l4.length cap6) xs5, .row 80 (encCell).size l3.length (.slice ao5 l3.length cap5) xs4, .row 80 (encCell).size l2.length (.slice ao4 l2.length cap4) xs3, .row 4 (encBool).size l1.length (.slice ao3 l1.length cap3) xs2, .blk b2 78 [(.slice ao4 l2.length cap4), (.slice ao5 l3.length cap5), (.slice ao6 l4.length cap6), (.slice ao7 l5.length cap7), (.slice ao8 l6.length cap8), (.slice ao9 l7.length cap9)], .blk b1 24 [(.int .i64 p_s.actuators), (.slice ao1 p_s.steps.length cap1)]] H) 13 rfl (by kernel_rfl) (fun w' s => (s.select [1, 2, 3, 4, 5, 6, 7, 8, 9, 10] (by decide) rfl)) (fun _ s => s.drew) ?_
      refine TQ 0 (by kernel_rfl) rfl (ov_move rfl rfl) (TQ 1 (by kernel_rfl) rfl (ov_move rfl rfl) (TQ 2 (by kernel_rfl) rfl (ov_move rfl rfl) (TQ 6 (by kernel_rfl) rfl (ov_move rfl rfl) ?_)))
      refine AL.any (rs := [3]) (by kernel_rfl) (by decide) ?_
      refine ALs.cons (i := 3) rfl (Runs.free rfl) rfl rfl ?_ ?_
      ·
       obtain ⟨r1, e5, hm⟩ := bind_some hm
       refine OQ.step (oq_con (r := (.int .i64 r1)) call87 rfl rfl (fun w' s => ⟨_, (diagram_index_con x2  w' H s.hold hG r1 e5)⟩)) ?_
       refine ⟨fun w' s => (s.select [1, 2, 3, 4, 5, 6, 7, 8, 9, 10] (by decide) rfl), ?_⟩
       obtain ⟨x3, e6, hm⟩ := bind_some hm
       obtain ⟨h14, h15, h16, cs3, h17, h18⟩ := hG.1.1.1.get e6 (by decide)
       obtain rfl : cs3 = [(.int .u8 x3)] := h17
       refine TQ 4 (by kernel_rfl) rfl (ov_indexAddr_globL rfl underlying84 sizeOf5 rfl rfl rfl h14 h15) (TQ 5 (by kernel_rfl) rfl (ov_load_elem (v := (.int .u8 x3)) isAgg5 rfl rfl h18) ?_)
       refine AL.any (rs := [7]) (by kernel_rfl) (by decide) ?_
       refine ALs.cons (i := 7) rfl (Runs.free rfl) rfl rfl ?_ ?_
       ·
        obtain ⟨r2, e7, hm⟩ := bind_some hm
        refine OQ.step (oq_con (r := (.int .i64 r2)) call87 rfl rfl (fun w' s => ⟨_, (diagram_index_con x2  w' H s.hold hG r2 e7)⟩)) ?_
        refine ⟨fun w' s => (s.select [1, 2, 3, 4, 5, 6, 7, 8, 9, 10] (by decide) rfl), ?_⟩
        obtain ⟨x4, e8, hm⟩ := bind_some hm
        obtain ⟨h19, h20, h21, cs4, h22, h23⟩ := hG.1.1.1.get e8 (by decide)
        obtain rfl : cs4 = [(.int .u8 x4)] := h22
        refine TQ 8 (by kernel_rfl) rfl (ov_indexAddr_globL rfl underlying84 sizeOf5 rfl rfl rfl h19 h20) (TQ 9 (by kernel_rfl) rfl (ov_load_elem (v := (.int .u8 x4)) isAgg5 rfl rfl h23) (TQ 10 (by kernel_rfl) rfl (ov_build (r := (.agg #[(.int .u8 x3), (.int .u8 x4)])) rfl rfl (fun _ => by kernel_rfl)) ?_))
        refine AL.any (rs := [11]) (by kernel_rfl) (by decide) ?_
        refine ALs.cons (i := 11) rfl (Runs.free rfl) rfl rfl ?_ ?_
        ·
         obtain ⟨x5, e9, hm⟩ := bind_some hm
         obtain ⟨h24, h25, h26, cs5, h27, h28⟩ := RL.get rl16 e9
         obtain rfl : cs5 = [(.int .u8 x5.first), (.int .u8 x5.second)] := h27
         refine OQ.step (OV.quiet (ov_indexAddr_own (i := 0) underlying78 sizeOf80 rfl rfl rfl rfl h24 h25)) ?_
         refine ⟨fun w' s => (s.select [1, 2, 3, 4, 5, 6, 7, 8, 9, 10] (by decide) rfl), ?_⟩
         refine AL.any (rs := [12]) (by kernel_rfl) (by decide) ?_
         refine ALs.cons0 (i := 12) rfl (Runs.free rfl) rfl ?_ ?_
         ·
          have rl17 := RL.set rl16 (y := (Cell.mk x3 x4)) (off := 0) (vs := [(.int .u8 x3), (.int .u8 x4)]) e9 h28 rfl (Nat.le_of_ble_eq_true rfl)
          have e10 := at?_set (y := (Cell.mk x3 x4)) e9
          refine os_store_own (i := 0) (vs := [(.int .u8 x3), (.int .u8 x4)]) sizeOf80 rfl rfl rfl rfl (own_pos h24 h25) rfl rfl (elem_le (off := 0) h26 (Nat.le_of_ble_eq_true rfl)) rfl ?_
          rw [show l8.length = (List.set l8 (Int.toNat i2) (Cell.mk x3 x4)).length from List.length_set.symm]
          obtain ⟨h29, h30, h31, cs6, h32, h33⟩ := rl17.get e10
          obtain rfl : cs6 = [(.int .u8 x3), (.int .u8 x4)] := h32
          refine ⟨fun w' s => (s.select [1, 2, 3, 4, 5, 6, 7, 8, 9, 10] (by decide) rfl), ?_⟩
          refine AL.done (by kernel_rfl) ?_
          refine bn (tn (WP.region (V rfl (ov_add rfl rfl rfl) (Vm rfl (WL.nil (tn ?_))))))
          exact ⟨(IntKind.wrap .i64 (i2 + 1)), (List.set l8 (Int.toNat i2) (Cell.mk x3 x4)), ao11, cap11, (spl xs10 (Int.toNat i2 * encCell.size + 0) [(.int .u8 x3), (.int .u8 x4)]), rl17, (Sub.all rfl), fun w' s => s, hm⟩
         exact ALs.nil
        exact ALs.nil
       exact ALs.nil
      exact ALs.nil
     replace hm := ite_f hc5 hm
     refine WP.exit (then_exit (then_exit (block_here (tn ?_))))
     exact ⟨l8, ao11, cap11, xs10, rl16, (Sub.all rfl), fun w' s => s, hm⟩
    rintro g' S' ⟨l9, ao12, cap12, xs11, rl18, hsub3, hS3, hm⟩
    refine WP.sub hsub3 (WP.weaken hS3 ?_)
    replace hm := (congrFun hk3 l9).symm.trans hm
    obtain ⟨k4, hk4, hm⟩ := joinK_some hm
    refine WP.seq_join (fun g' S' => ∃ (l12 : (List Bool)) (ao15 : Option Addr) (cap15 : Nat) (xs14 : List Value) (l13 : (List Cell)) (ao16 : Option Addr) (cap16 : Nat) (xs15 : List Value), RL H encBool l12 xs14 ∧ RL H encCell l13 xs15 ∧ Sub [(1, (pB b1 0)), (3, (.slice (some ⟨b2, 0, none⟩) 6 6)), (4, (.slice ao15 l12.length cap15)), (7, (.slice ao16 l13.length cap16)), (20, (.slice ao1 p_s.steps.length cap1)), (21, (.int .i64 (p_s.steps.length : Int))), (22, (.int .i64 i1)), (1000000007, (.bool false))] g' ∧ (∀ w', S' w' → St w H [.row 80 (encCell).size l13.length (.slice ao16 l13.length cap16) xs15, .row 80 (encCell).size l7.length (.slice ao9 l7.length cap9) xs8, .row 80 (encCell).size l6.length (.slice ao8 l6.length cap8) xs7, .row 80 (encCell).size l5.length (.slice ao7 l5.length cap7) xs6, .row 80 (encCell).size l4.length (.slice ao6 l4.length cap6) xs5, .row 80 (encCell).size l3.length (.slice ao5 l3.length cap5) xs4, .row 80 (encCell).size l2.length (.slice ao4 l2.length cap4) xs3, .row 4 (encBool).size l12.length (.slice ao15 l12.length cap15) xs14, .blk b2 78 [(.slice ao4 l2.length cap4), (.slice ao5 l3.length cap5), (.slice ao6 l4.length cap6), (.slice ao7 l5.length cap7), (.slice ao8 l6.length cap8), (.slice ao9 l7.length cap9)], .blk b1 24 [(.int .i64 p_s.actuators), (.slice ao1 p_s.steps.length cap1)]] H w') ∧ k4 l12 l13 = some r) ?_ ?_
    ·
     refine WP.seq (WP.region (V rfl (ov_fieldAddr underlying45 rfl rfl rfl sizeOf43 rfl rfl) (Vl 1 isAgg43 rfl (V rfl (ov_len_slice underlying43 rfl rfl) (Vm rfl (WL.nil (tn (WP.block ?_))))))))
     refine WP.loop (fun m3 g' S' => ∃ (i3 : Int) (l10 : (List Bool)) (ao13 : Option Addr) (cap13 : Nat) (xs12 : List Value) (l11 : (List Cell)) (ao14 : Option Addr) (cap14 : Nat) (xs13 : List Value), RL H encBool l10 xs12 ∧ RL H encCell l11 xs13 ∧ Sub [(1, (pB b1 0)), (3, (.slice (some ⟨b2, 0, none⟩) 6 6)), (4, (.slice ao13 l10.length cap13)), (7, (.slice ao14 l11.length cap14)), (20, (.slice ao1 p_s.steps.length cap1)), (21, (.int .i64 (p_s.steps.length : Int))), (22, (.int .i64 i1)), (50, (.slice ao10 x1.strokes.length cap10)), (51, (.int .i64 (x1.strokes.length : Int))), (52, (.int .i64 i3)), (1000000007, (.bool false))] g' ∧ (∀ w', S' w' → St w H [.row 80 (encCell).size l11.length (.slice ao14 l11.length cap14) xs13, .row 80 (encCell).size l7.length (.slice ao9 l7.length cap9) xs8, .row 80 (encCell).size l6.length (.slice ao8 l6.length cap8) xs7, .row 80 (encCell).size l5.length (.slice ao7 l5.length cap7) xs6, .row 80 (encCell).size l4.length (.slice ao6 l4.length cap6) xs5, .row 80 (encCell).size l3.length (.slice ao5 l3.length cap5) xs4, .row 80 (encCell).size l2.length (.slice ao4 l2.length cap4) xs3, .row 4 (encBool).size l10.length (.slice ao13 l10.length cap13) xs12, .blk b2 78 [(.slice ao4 l2.length cap4), (.slice ao5 l3.length cap5), (.slice ao6 l4.length cap6), (.slice ao7 l5.length cap7), (.slice ao8 l6.length cap8), (.slice ao9 l7.length cap9)], .blk b1 24 [(.int .i64 p_s.actuators), (.slice ao1 p_s.steps.length cap1)]] H w') ∧ diagram_cells1_loop3 x1 k4 m3 i3 l10 l11 = some r) ((Int.toNat ((x1.strokes.length : Int) - 0) + 1)) ⟨0, l1, ao3, cap3, xs2, l9, ao12, cap12, xs11, rl8, rl18, (Sub.all rfl), fun w' s => (s.select [0, 2, 3, 4, 5, 6, 7, 8, 9, 10] (by decide) rfl), hm⟩ ?_ ?_
     ·
      rintro g' S' ⟨_, _, _, _, _, _, _, _, _, _, _, _, _, hm⟩
      exact none_some hm
     rintro m3 g' S' ⟨i3, l10, ao13, cap13, xs12, l11, ao14, cap14, xs13, rl19, rl20, hsub4, hS4, hm⟩
     refine WP.sub hsub4 (WP.weaken hS4 ?_)
     rw [diagram_cells1_loop3] at hm
     refine WP.seq (WP.region (V rfl (ov_lss rfl rfl rfl) (WL.nil (tn (WP.seq ?_)))))
     refine WP.cond rfl (fun hc6 => ?_) (fun hc6 => ?_)
     ·
      replace hm := ite_t hc6 hm
      refine WP.skip (tn (WP.seq (WP.block (WP.seq (WP.region ?_)))))
      obtain ⟨x6, e11, hm⟩ := bind_some hm
      obtain ⟨h34, h35, h36, cs7, h37, h38⟩ := h3.get e11 (by decide)
      obtain rfl : cs7 = [(.int .i64 x6.actuator), (.bool x6.out)] := h37
      refine V rfl (ov_indexAddr underlying43 sizeOf48 rfl rfl rfl h34 h35 h36) (V rfl (ov_load_elems (vs := [(.int .i64 x6.actuator), (.bool x6.out)]) isAgg48 sizeOf48 rfl rfl rfl h38 h36) ?_)
      refine ws rfl (os_alloc (cs := [(.int .i64 0), (.bool false)]) zeroValue48 rfl rfl (fun b6 => ?_))
      refine ws0 rfl (os_store (i := 0) (vs := [(.int .i64 x6.actuator), (.bool x6.out)]) (cs' := [(.int .i64 x6.actuator), (.bool x6.out)]) sizeOf48 rfl rfl rfl rfl rfl rfl rfl rfl rfl ?_)
      refine WL.nil (tn (WP.seq (WP.region (Vm rfl (V rfl (ov_fieldAddr underlying48 rfl rfl rfl sizeOf3 rfl rfl) (Vl 0 isAgg3 rfl (V rfl (ov_fieldAddr underlying48 rfl rfl rfl sizeOf4 rfl rfl) (Vl 0 isAgg4 rfl ?_))))))))
      obtain ⟨x7, e12, hm⟩ := bind_some hm
      obtain ⟨h39, h40, h41, cs8, h42, h43⟩ := RL.get rl19 e12
      obtain rfl : cs8 = [(.bool x7)] := h42
      refine V rfl (ov_indexAddr_own (i := 8) underlying49 sizeOf4 rfl rfl rfl rfl h39 h40) ?_
      have rl21 := RL.set rl19 (y := x6.out) (off := 0) (vs := [(.bool x6.out)]) e12 h43 rfl (Nat.le_of_ble_eq_true rfl)
      have e13 := at?_set (y := x6.out) e12
      refine ws0 rfl (os_store_own (i := 8) (vs := [(.bool x6.out)]) sizeOf4 rfl rfl rfl rfl (own_pos h39 h40) rfl rfl (elem_le (off := 0) h41 (Nat.le_of_ble_eq_true rfl)) rfl ?_)
      rw [show l10.length = (List.set l10 (Int.toNat x6.actuator) x6.out).length from List.length_set.symm]
      obtain ⟨h44, h45, h46, cs9, h47, h48⟩ := rl21.get e13
      obtain rfl : cs9 = [(.bool x6.out)] := h47
      refine WL.nil (tn ?_)
      refine WP.region_any (S₀ := St w H [.blk b6 48 [(.int .i64 x6.actuator), (.bool x6.out)], .row 80 (encCell).size l7.length (.slice ao9 l7.length cap9) xs8, .row 80 (encCell).size l6.length (.slice ao8 l6.length cap8) xs7, .row 80 (encCell).size l5.length (.slice ao7 l5.length cap7) xs6, .row 80 (encCell).size l4.length (.slice ao6 l4.length cap6) xs5, .row 80 (encCell).size l3.length (.slice ao5 l3.length cap5) xs4, .row 80 (encCell).size l2.length (.slice ao4 l2.length cap4) xs3, .row 4 (encBool).size (List.set l10 (Int.toNat x6.actuator) x6.out).length (.slice ao13 (List.set l10 (Int.toNat x6.actuator) x6.out).length cap13) (spl xs12 (Int.toNat x6.actuator * encBool.size + 0) [(.bool x6.out)]), .blk b2 78 [(.slice ao4 l2.length cap4), (.slice ao5 l3.length cap5), (.slice ao6 l4.length cap6), (.slice ao7 l5.length cap7), (.slice ao8 l6.length cap8), (.slice ao9 l7.length cap9)], .blk b1 24 [(.int .i64 p_s.actuators), (.slice ao1 p_s.steps.length cap1)]] H) 16 rfl (by kernel_rfl) (fun w' s => (s.select [0, 2, 3, 4, 5, 6, 7, 8, 9, 10] (by decide) rfl)) (fun _ s => s.drew) ?_
      refine TQ 0 (by kernel_rfl) rfl (ov_move rfl rfl) (TQ 1 (by kernel_rfl) rfl (ov_fieldAddr underlying48 rfl rfl rfl sizeOf3 rfl rfl) (TQ 2 (by kernel_rfl) rfl (ov_load_box (i := 0) isAgg3 rfl rfl rfl rfl) (TQ 3 (by kernel_rfl) rfl (ov_fieldAddr underlying48 rfl rfl rfl sizeOf4 rfl rfl) (TQ 4 (by kernel_rfl) rfl (ov_load_box (i := 0) isAgg4 rfl rfl rfl rfl) (TQ 8 (by kernel_rfl) rfl (ov_fieldAddr underlying48 rfl rfl rfl sizeOf4 rfl rfl) (TQ 9 (by kernel_rfl) rfl (ov_load_box (i := 0) isAgg4 rfl rfl rfl rfl) ?_))))))
      refine AL.any (rs := [5]) (by kernel_rfl) (by decide) ?_
      refine ALs.cons (i := 5) rfl (Runs.free rfl) rfl rfl ?_ ?_
      ·
       obtain ⟨r3, e14, hm⟩ := bind_some hm
       refine OQ.step (oq_con (r := (.int .i64 r3)) call87 rfl rfl (fun w' s => ⟨_, (diagram_index_con x6.out  w' H s.hold hG r3 e14)⟩)) ?_
       refine ⟨fun w' s => (s.select [0, 2, 3, 4, 5, 6, 7, 8, 9, 10] (by decide) rfl), ?_⟩
       obtain ⟨x8, e15, hm⟩ := bind_some hm
       obtain ⟨h49, h50, h51, cs10, h52, h53⟩ := hG.1.1.2.get e15 (by decide)
       obtain rfl : cs10 = [(.int .u8 x8)] := h52
       refine TQ 6 (by kernel_rfl) rfl (ov_indexAddr_globL rfl underlying84 sizeOf5 rfl rfl rfl h49 h50) (TQ 7 (by kernel_rfl) rfl (ov_load_elem (v := (.int .u8 x8)) isAgg5 rfl rfl h53) ?_)
       refine AL.any (rs := [10]) (by kernel_rfl) (by decide) ?_
       refine ALs.cons (i := 10) rfl (Runs.free rfl) rfl rfl ?_ ?_
       ·
        obtain ⟨r4, e16, hm⟩ := bind_some hm
        refine OQ.step (oq_con (r := (.int .i64 r4)) call87 rfl rfl (fun w' s => ⟨_, (diagram_index_con x6.out  w' H s.hold hG r4 e16)⟩)) ?_
        refine ⟨fun w' s => (s.select [0, 2, 3, 4, 5, 6, 7, 8, 9, 10] (by decide) rfl), ?_⟩
        obtain ⟨x9, e17, hm⟩ := bind_some hm
        obtain ⟨h54, h55, h56, cs11, h57, h58⟩ := hG.1.1.1.get e17 (by decide)
        obtain rfl : cs11 = [(.int .u8 x9)] := h57
        refine TQ 11 (by kernel_rfl) rfl (ov_indexAddr_globL rfl underlying84 sizeOf5 rfl rfl rfl h54 h55) (TQ 12 (by kernel_rfl) rfl (ov_load_elem (v := (.int .u8 x9)) isAgg5 rfl rfl h58) (TQ 13 (by kernel_rfl) rfl (ov_build (r := (.agg #[(.int .u8 x8), (.int .u8 x9)])) rfl rfl (fun _ => by kernel_rfl)) ?_))
        refine AL.any (rs := [14]) (by kernel_rfl) (by decide) ?_
        refine ALs.cons (i := 14) rfl (Runs.free rfl) rfl rfl ?_ ?_
        ·
         obtain ⟨x10, e18, hm⟩ := bind_some hm
         obtain ⟨h59, h60, h61, cs12, h62, h63⟩ := RL.get rl20 e18
         obtain rfl : cs12 = [(.int .u8 x10.first), (.int .u8 x10.second)] := h62
         refine OQ.step (OV.quiet (ov_indexAddr_own (i := 1) underlying78 sizeOf80 rfl rfl rfl rfl h59 h60)) ?_
         refine ⟨fun w' s => (s.select [0, 2, 3, 4, 5, 6, 7, 8, 9, 10] (by decide) rfl), ?_⟩
         refine AL.any (rs := [15]) (by kernel_rfl) (by decide) ?_
         refine ALs.cons0 (i := 15) rfl (Runs.free rfl) rfl ?_ ?_
         ·
          have rl22 := RL.set rl20 (y := (Cell.mk x8 x9)) (off := 0) (vs := [(.int .u8 x8), (.int .u8 x9)]) e18 h63 rfl (Nat.le_of_ble_eq_true rfl)
          have e19 := at?_set (y := (Cell.mk x8 x9)) e18
          refine os_store_own (i := 1) (vs := [(.int .u8 x8), (.int .u8 x9)]) sizeOf80 rfl rfl rfl rfl (own_pos h59 h60) rfl rfl (elem_le (off := 0) h61 (Nat.le_of_ble_eq_true rfl)) rfl ?_
          rw [show l11.length = (List.set l11 (Int.toNat x6.actuator) (Cell.mk x8 x9)).length from List.length_set.symm]
          obtain ⟨h64, h65, h66, cs13, h67, h68⟩ := rl22.get e19
          obtain rfl : cs13 = [(.int .u8 x8), (.int .u8 x9)] := h67
          refine ⟨fun w' s => (s.select [0, 2, 3, 4, 5, 6, 7, 8, 9, 10] (by decide) rfl), ?_⟩
          refine AL.done (by kernel_rfl) ?_
          refine bn (tn (WP.region (V rfl (ov_add rfl rfl rfl) (Vm rfl (WL.nil (tn ?_))))))
          exact ⟨(IntKind.wrap .i64 (i3 + 1)), (List.set l10 (Int.toNat x6.actuator) x6.out), ao13, cap13, (spl xs12 (Int.toNat x6.actuator * encBool.size + 0) [(.bool x6.out)]), (List.set l11 (Int.toNat x6.actuator) (Cell.mk x8 x9)), ao14, cap14, (spl xs13 (Int.toNat x6.actuator * encCell.size + 0) [(.int .u8 x8), (.int .u8 x9)]), rl21, rl22, (Sub.all rfl), fun w' s => (s.select [1, 2, 3, 4, 5, 6, 7, 8, 9, 10] (by decide) rfl), hm⟩
         exact ALs.nil
        exact ALs.nil
       exact ALs.nil
      exact ALs.nil
     replace hm := ite_f hc6 hm
     refine WP.exit (then_exit (then_exit (block_here (tn ?_))))
     exact ⟨l10, ao13, cap13, xs12, l11, ao14, cap14, xs13, rl19, rl20, (Sub.all rfl), fun w' s => s, hm⟩
    rintro g' S' ⟨l12, ao15, cap15, xs14, l13, ao16, cap16, xs15, rl23, rl24, hsub5, hS5, hm⟩
    refine WP.sub hsub5 (WP.weaken hS5 ?_)
    replace hm := (congrFun (congrFun hk4 l12) l13).symm.trans hm
    refine WP.seq (WP.region (Vm rfl (V rfl (ov_len_slice underlying76 rfl rfl) (Vm rfl (WL.nil (tn (WP.block ?_)))))))
    refine WP.loop (fun m4 g' S' => ∃ (i4 : Int) (l14 : (List Cell)) (ao17 : Option Addr) (cap17 : Nat) (xs16 : List Value) (l15 : (List Cell)) (ao18 : Option Addr) (cap18 : Nat) (xs17 : List Value) (l16 : (List Cell)) (ao19 : Option Addr) (cap19 : Nat) (xs18 : List Value) (l17 : (List Cell)) (ao20 : Option Addr) (cap20 : Nat) (xs19 : List Value) (l18 : (List Cell)) (ao21 : Option Addr) (cap21 : Nat) (xs20 : List Value) (l19 : (List Cell)) (ao22 : Option Addr) (cap22 : Nat) (xs21 : List Value), RL H encCell l14 xs16 ∧ RL H encCell l15 xs17 ∧ RL H encCell l16 xs18 ∧ RL H encCell l17 xs19 ∧ RL H encCell l18 xs20 ∧ RL H encCell l19 xs21 ∧ Sub [(1, (pB b1 0)), (3, (.slice (some ⟨b2, 0, none⟩) 6 6)), (4, (.slice ao15 l12.length cap15)), (7, (.slice ao16 l13.length cap16)), (20, (.slice ao1 p_s.steps.length cap1)), (21, (.int .i64 (p_s.steps.length : Int))), (22, (.int .i64 i1)), (79, (.int .i64 6)), (80, (.int .i64 i4)), (1000000007, (.bool false))] g' ∧ (∀ w', S' w' → St w H [.row 80 (encCell).size l13.length (.slice ao16 l13.length cap16) xs15, .row 80 (encCell).size l19.length (.slice ao22 l19.length cap22) xs21, .row 80 (encCell).size l18.length (.slice ao21 l18.length cap21) xs20, .row 80 (encCell).size l17.length (.slice ao20 l17.length cap20) xs19, .row 80 (encCell).size l16.length (.slice ao19 l16.length cap19) xs18, .row 80 (encCell).size l15.length (.slice ao18 l15.length cap18) xs17, .row 80 (encCell).size l14.length (.slice ao17 l14.length cap17) xs16, .row 4 (encBool).size l12.length (.slice ao15 l12.length cap15) xs14, .blk b2 78 [(.slice ao17 l14.length cap17), (.slice ao18 l15.length cap18), (.slice ao19 l16.length cap19), (.slice ao20 l17.length cap20), (.slice ao21 l18.length cap21), (.slice ao22 l19.length cap22)], .blk b1 24 [(.int .i64 p_s.actuators), (.slice ao1 p_s.steps.length cap1)]] H w') ∧ diagram_cells6_loop4 k2 l13 l12 m4 i4 l14 l15 l16 l17 l18 l19 = some r) ((Int.toNat (6 - 0) + 1)) ⟨0, l2, ao4, cap4, xs3, l3, ao5, cap5, xs4, l4, ao6, cap6, xs5, l5, ao7, cap7, xs6, l6, ao8, cap8, xs7, l7, ao9, cap9, xs8, rl9, rl10, rl11, rl12, rl13, rl14, (Sub.all rfl), fun w' s => s, hm⟩ ?_ ?_
    ·
     rintro g' S' ⟨_, _, _, _, _, _, _, _, _, _, _, _, _, _, _, _, _, _, _, _, _, _, _, _, _, _, _, _, _, _, _, _, _, hm⟩
     exact none_some hm
    rintro m4 g' S' ⟨i4, l14, ao17, cap17, xs16, l15, ao18, cap18, xs17, l16, ao19, cap19, xs18, l17, ao20, cap20, xs19, l18, ao21, cap21, xs20, l19, ao22, cap22, xs21, rl25, rl26, rl27, rl28, rl29, rl30, hsub6, hS6, hm⟩
    refine WP.sub hsub6 (WP.weaken hS6 ?_)
    rw [diagram_cells6_loop4] at hm
    refine WP.seq (WP.region (V rfl (ov_lss rfl rfl rfl) (WL.nil (tn (WP.seq ?_)))))
    refine WP.cond rfl (fun hc7 => ?_) (fun hc7 => ?_)
    ·
     replace hm := ite_t hc7 hm
     refine WP.skip (tn (WP.seq (WP.block (WP.seq (WP.region (Vm rfl (Va rfl (WL.nil (tn ?_)))))))))
     refine WP.region_any (S₀ := St w H [.row 80 (encCell).size l13.length (.slice ao16 l13.length cap16) xs15, .row 4 (encBool).size l12.length (.slice ao15 l12.length cap15) xs14, .blk b1 24 [(.int .i64 p_s.actuators), (.slice ao1 p_s.steps.length cap1)]] H) 14 rfl (by kernel_rfl) (fun w' s => (s.select [0, 7, 9] (by decide) rfl)) (fun _ s => s.drew) ?_
     refine TQ 0 (by kernel_rfl) rfl (ov_move rfl rfl) (TQ 1 (by kernel_rfl) rfl (ov_move rfl rfl) (TQ 2 (by kernel_rfl) rfl (ov_move rfl rfl) (TQ 3 (by kernel_rfl) rfl (ov_move rfl rfl) ?_)))
     rcases Bool.eq_false_or_eq_true (i4 == 0) with hc8 | hc8
     ·
      replace hm := ite_t hc8 hm
      refine TQ 4 (by kernel_rfl) rfl (ov_indexAddr_bsl (j := 0) underlying76 sizeOf78 rfl rfl rfl (eq_of_beq hc8) rfl) (TQ 6 (by kernel_rfl) rfl (ov_move rfl rfl) (TQ 7 (by kernel_rfl) rfl (ov_move rfl rfl) ?_))
      obtain ⟨x11, e20, hm⟩ := bind_some hm
      obtain ⟨h69, h70, h71, cs14, h72, h73⟩ := RL.get rl24 e20
      obtain rfl : cs14 = [(.int .u8 x11.first), (.int .u8 x11.second)] := h72
      refine TQ 8 (by kernel_rfl) rfl (ov_indexAddr_own (i := 0) underlying78 sizeOf80 rfl rfl rfl rfl h69 h70) (TQ 9 (by kernel_rfl) rfl (ov_load_owns (i := 0) (vs := [(.int .u8 x11.first), (.int .u8 x11.second)]) isAgg80 sizeOf80 rfl rfl rfl (own_pos h69 h70) rfl (fun j u hu => elem_cell h73 hu)) ?_)
      refine AL.any (rs := [5, 10]) (by kernel_rfl) (by decide) ?_
      refine ALs.cons (i := 5) rfl (Runs.free rfl) rfl rfl ?_ ?_
      ·
       refine OQ.step (OV.quiet (ov_load_box (i := 8) isAgg78 rfl rfl rfl rfl)) ?_
       refine ⟨fun w' s => (s.select [0, 7, 9] (by decide) rfl), ?_⟩
       refine AL.any (rs := [10]) (by kernel_rfl) (by decide) ?_
       refine ALs.cons (i := 10) rfl (Runs.free rfl) rfl rfl ?_ ?_
       ·
        have rl31 : RL H encCell ([x11] : List Cell) [(.int .u8 x11.first), (.int .u8 x11.second)] := RL.cons (cs := [(.int .u8 x11.first), (.int .u8 x11.second)]) (xs := []) rfl (RL.nil _ _)
        refine os_buildSlice (cs := [(.int .u8 x11.first), (.int .u8 x11.second)]) (E := 80) (sz := 2) rfl rfl (fun _ => by kernel_rfl) rfl (by decide) (fun b7 => ?_)
        refine ⟨fun w' s => (s.select [1, 8, 10] (by decide) rfl), ?_⟩
        refine AL.any (rs := [11]) (by kernel_rfl) (by decide) ?_
        refine ALs.cons (i := 11) rfl (Runs.free rfl) rfl rfl ?_ ?_
        ·
         obtain ⟨l20, e21, hm⟩ := bind_some hm
         refine os_app (i := 7) (j := 0) (En := encCell) (xs := xs16) (ys := [(.int .u8 x11.first), (.int .u8 x11.second)]) underlying78 (by kernel_rfl : (prog.info? 80).map (fun i => (i.zero, i.size, i.bytes)) = some (some (.agg #[(.int .u8 0), (.int .u8 0)]), (encCell).size, 2)) rfl (by decide) rfl rfl rfl rfl rfl rfl rl25 rl31 e21 (fun ao23 cap23 rl32 => ?_)
         refine ⟨fun w' s => (s.select [1, 8, 10] (by decide) rfl), ?_⟩
         refine TQ 12 (by kernel_rfl) rfl (ov_indexAddr_bsl (j := 0) underlying76 sizeOf78 rfl rfl rfl (eq_of_beq hc8) rfl) ?_
         refine AL.any (rs := [13]) (by kernel_rfl) (by decide) ?_
         refine ALs.cons0 (i := 13) rfl (Runs.free rfl) rfl ?_ ?_
         ·
          refine os_store (i := 9) (vs := [(.slice ao23 (l14 ++ ([x11] : List Cell)).length cap23)]) (cs' := [(.slice ao23 (l14 ++ ([x11] : List Cell)).length cap23), (.slice ao18 l15.length cap18), (.slice ao19 l16.length cap19), (.slice ao20 l17.length cap20), (.slice ao21 l18.length cap21), (.slice ao22 l19.length cap22)]) sizeOf78 rfl rfl rfl rfl rfl rfl rfl rfl rfl ?_
          refine ⟨fun w' s => (s.select [1, 8, 10] (by decide) rfl), ?_⟩
          refine AL.done (by kernel_rfl) ?_
          refine bn (tn (WP.region (V rfl (ov_add rfl rfl rfl) (Vm rfl (WL.nil (tn ?_))))))
          exact ⟨(IntKind.wrap .i64 (i4 + 1)), (l14 ++ ([x11] : List Cell)), ao23, cap23, (xs16 ++ [(.int .u8 x11.first), (.int .u8 x11.second)]), l15, ao18, cap18, xs17, l16, ao19, cap19, xs18, l17, ao20, cap20, xs19, l18, ao21, cap21, xs20, l19, ao22, cap22, xs21, rl32, rl26, rl27, rl28, rl29, rl30, (Sub.all rfl), fun w' s => (s.select [1, 2, 3, 4, 5, 6, 7, 8, 9, 10] (by decide) rfl), hm⟩
         exact ALs.nil
        exact ALs.nil
       exact ALs.nil
      refine ALs.cons (i := 10) rfl (Runs.free rfl) rfl rfl ?_ ?_
      ·
       have rl31 : RL H encCell ([x11] : List Cell) [(.int .u8 x11.first), (.int .u8 x11.second)] := RL.cons (cs := [(.int .u8 x11.first), (.int .u8 x11.second)]) (xs := []) rfl (RL.nil _ _)
       refine os_buildSlice (cs := [(.int .u8 x11.first), (.int .u8 x11.second)]) (E := 80) (sz := 2) rfl rfl (fun _ => by kernel_rfl) rfl (by decide) (fun b7 => ?_)
       refine ⟨fun w' s => (s.select [1, 8, 10] (by decide) rfl), ?_⟩
       refine AL.any (rs := [5]) (by kernel_rfl) (by decide) ?_
       refine ALs.cons (i := 5) rfl (Runs.free rfl) rfl rfl ?_ ?_
       ·
        refine OQ.step (OV.quiet (ov_load_box (i := 9) isAgg78 rfl rfl rfl rfl)) ?_
        refine ⟨fun w' s => (s.select [1, 8, 10] (by decide) rfl), ?_⟩
        refine AL.any (rs := [11]) (by kernel_rfl) (by decide) ?_
        refine ALs.cons (i := 11) rfl (Runs.free rfl) rfl rfl ?_ ?_
        ·
         obtain ⟨l20, e21, hm⟩ := bind_some hm
         refine os_app (i := 7) (j := 0) (En := encCell) (xs := xs16) (ys := [(.int .u8 x11.first), (.int .u8 x11.second)]) underlying78 (by kernel_rfl : (prog.info? 80).map (fun i => (i.zero, i.size, i.bytes)) = some (some (.agg #[(.int .u8 0), (.int .u8 0)]), (encCell).size, 2)) rfl (by decide) rfl rfl rfl rfl rfl rfl rl25 rl31 e21 (fun ao23 cap23 rl32 => ?_)
         refine ⟨fun w' s => (s.select [1, 8, 10] (by decide) rfl), ?_⟩
         refine TQ 12 (by kernel_rfl) rfl (ov_indexAddr_bsl (j := 0) underlying76 sizeOf78 rfl rfl rfl (eq_of_beq hc8) rfl) ?_
         refine AL.any (rs := [13]) (by kernel_rfl) (by decide) ?_
         refine ALs.cons0 (i := 13) rfl (Runs.free rfl) rfl ?_ ?_
         ·
          refine os_store (i := 9) (vs := [(.slice ao23 (l14 ++ ([x11] : List Cell)).length cap23)]) (cs' := [(.slice ao23 (l14 ++ ([x11] : List Cell)).length cap23), (.slice ao18 l15.length cap18), (.slice ao19 l16.length cap19), (.slice ao20 l17.length cap20), (.slice ao21 l18.length cap21), (.slice ao22 l19.length cap22)]) sizeOf78 rfl rfl rfl rfl rfl rfl rfl rfl rfl ?_
          refine ⟨fun w' s => (s.select [1, 8, 10] (by decide) rfl), ?_⟩
          refine AL.done (by kernel_rfl) ?_
          refine bn (tn (WP.region (V rfl (ov_add rfl rfl rfl) (Vm rfl (WL.nil (tn ?_))))))
          exact ⟨(IntKind.wrap .i64 (i4 + 1)), (l14 ++ ([x11] : List Cell)), ao23, cap23, (xs16 ++ [(.int .u8 x11.first), (.int .u8 x11.second)]), l15, ao18, cap18, xs17, l16, ao19, cap19, xs18, l17, ao20, cap20, xs19, l18, ao21, cap21, xs20, l19, ao22, cap22, xs21, rl32, rl26, rl27, rl28, rl29, rl30, (Sub.all rfl), fun w' s => (s.select [1, 2, 3, 4, 5, 6, 7, 8, 9, 10] (by decide) rfl), hm⟩
         exact ALs.nil
        exact ALs.nil
       exact ALs.nil
      exact ALs.nil
     replace hm := ite_f hc8 hm
     rcases Bool.eq_false_or_eq_true (i4 == 1) with hc9 | hc9
     ·
      replace hm := ite_t hc9 hm
      refine TQ 4 (by kernel_rfl) rfl (ov_indexAddr_bsl (j := 1) underlying76 sizeOf78 rfl rfl rfl (eq_of_beq hc9) rfl) (TQ 6 (by kernel_rfl) rfl (ov_move rfl rfl) (TQ 7 (by kernel_rfl) rfl (ov_move rfl rfl) ?_))
      obtain ⟨x12, e22, hm⟩ := bind_some hm
      obtain ⟨h74, h75, h76, cs15, h77, h78⟩ := RL.get rl24 e22
      obtain rfl : cs15 = [(.int .u8 x12.first), (.int .u8 x12.second)] := h77
      refine TQ 8 (by kernel_rfl) rfl (ov_indexAddr_own (i := 0) underlying78 sizeOf80 rfl rfl rfl rfl h74 h75) (TQ 9 (by kernel_rfl) rfl (ov_load_owns (i := 0) (vs := [(.int .u8 x12.first), (.int .u8 x12.second)]) isAgg80 sizeOf80 rfl rfl rfl (own_pos h74 h75) rfl (fun j u hu => elem_cell h78 hu)) ?_)
      refine AL.any (rs := [5, 10]) (by kernel_rfl) (by decide) ?_
      refine ALs.cons (i := 5) rfl (Runs.free rfl) rfl rfl ?_ ?_
      ·
       refine OQ.step (OV.quiet (ov_load_box (i := 8) isAgg78 rfl rfl rfl rfl)) ?_
       refine ⟨fun w' s => (s.select [0, 7, 9] (by decide) rfl), ?_⟩
       refine AL.any (rs := [10]) (by kernel_rfl) (by decide) ?_
       refine ALs.cons (i := 10) rfl (Runs.free rfl) rfl rfl ?_ ?_
       ·
        have rl33 : RL H encCell ([x12] : List Cell) [(.int .u8 x12.first), (.int .u8 x12.second)] := RL.cons (cs := [(.int .u8 x12.first), (.int .u8 x12.second)]) (xs := []) rfl (RL.nil _ _)
        refine os_buildSlice (cs := [(.int .u8 x12.first), (.int .u8 x12.second)]) (E := 80) (sz := 2) rfl rfl (fun _ => by kernel_rfl) rfl (by decide) (fun b8 => ?_)
        refine ⟨fun w' s => (s.select [1, 8, 10] (by decide) rfl), ?_⟩
        refine AL.any (rs := [11]) (by kernel_rfl) (by decide) ?_
        refine ALs.cons (i := 11) rfl (Runs.free rfl) rfl rfl ?_ ?_
        ·
         obtain ⟨l21, e23, hm⟩ := bind_some hm
         refine os_app (i := 6) (j := 0) (En := encCell) (xs := xs17) (ys := [(.int .u8 x12.first), (.int .u8 x12.second)]) underlying78 (by kernel_rfl : (prog.info? 80).map (fun i => (i.zero, i.size, i.bytes)) = some (some (.agg #[(.int .u8 0), (.int .u8 0)]), (encCell).size, 2)) rfl (by decide) rfl rfl rfl rfl rfl rfl rl26 rl33 e23 (fun ao24 cap24 rl34 => ?_)
         refine ⟨fun w' s => (s.select [1, 8, 10] (by decide) rfl), ?_⟩
         refine TQ 12 (by kernel_rfl) rfl (ov_indexAddr_bsl (j := 1) underlying76 sizeOf78 rfl rfl rfl (eq_of_beq hc9) rfl) ?_
         refine AL.any (rs := [13]) (by kernel_rfl) (by decide) ?_
         refine ALs.cons0 (i := 13) rfl (Runs.free rfl) rfl ?_ ?_
         ·
          refine os_store (i := 9) (vs := [(.slice ao24 (l15 ++ ([x12] : List Cell)).length cap24)]) (cs' := [(.slice ao17 l14.length cap17), (.slice ao24 (l15 ++ ([x12] : List Cell)).length cap24), (.slice ao19 l16.length cap19), (.slice ao20 l17.length cap20), (.slice ao21 l18.length cap21), (.slice ao22 l19.length cap22)]) sizeOf78 rfl rfl rfl rfl rfl rfl rfl rfl rfl ?_
          refine ⟨fun w' s => (s.select [1, 8, 10] (by decide) rfl), ?_⟩
          refine AL.done (by kernel_rfl) ?_
          refine bn (tn (WP.region (V rfl (ov_add rfl rfl rfl) (Vm rfl (WL.nil (tn ?_))))))
          exact ⟨(IntKind.wrap .i64 (i4 + 1)), l14, ao17, cap17, xs16, (l15 ++ ([x12] : List Cell)), ao24, cap24, (xs17 ++ [(.int .u8 x12.first), (.int .u8 x12.second)]), l16, ao19, cap19, xs18, l17, ao20, cap20, xs19, l18, ao21, cap21, xs20, l19, ao22, cap22, xs21, rl25, rl34, rl27, rl28, rl29, rl30, (Sub.all rfl), fun w' s => (s.select [1, 2, 3, 4, 5, 6, 7, 8, 9, 10] (by decide) rfl), hm⟩
         exact ALs.nil
        exact ALs.nil
       exact ALs.nil
      refine ALs.cons (i := 10) rfl (Runs.free rfl) rfl rfl ?_ ?_
      ·
       have rl33 : RL H encCell ([x12] : List Cell) [(.int .u8 x12.first), (.int .u8 x12.second)] := RL.cons (cs := [(.int .u8 x12.first), (.int .u8 x12.second)]) (xs := []) rfl (RL.nil _ _)
       refine os_buildSlice (cs := [(.int .u8 x12.first), (.int .u8 x12.second)]) (E := 80) (sz := 2) rfl rfl (fun _ => by kernel_rfl) rfl (by decide) (fun b8 => ?_)
       refine ⟨fun w' s => (s.select [1, 8, 10] (by decide) rfl), ?_⟩
       refine AL.any (rs := [5]) (by kernel_rfl) (by decide) ?_
       refine ALs.cons (i := 5) rfl (Runs.free rfl) rfl rfl ?_ ?_
       ·
        refine OQ.step (OV.quiet (ov_load_box (i := 9) isAgg78 rfl rfl rfl rfl)) ?_
        refine ⟨fun w' s => (s.select [1, 8, 10] (by decide) rfl), ?_⟩
        refine AL.any (rs := [11]) (by kernel_rfl) (by decide) ?_
        refine ALs.cons (i := 11) rfl (Runs.free rfl) rfl rfl ?_ ?_
        ·
         obtain ⟨l21, e23, hm⟩ := bind_some hm
         refine os_app (i := 6) (j := 0) (En := encCell) (xs := xs17) (ys := [(.int .u8 x12.first), (.int .u8 x12.second)]) underlying78 (by kernel_rfl : (prog.info? 80).map (fun i => (i.zero, i.size, i.bytes)) = some (some (.agg #[(.int .u8 0), (.int .u8 0)]), (encCell).size, 2)) rfl (by decide) rfl rfl rfl rfl rfl rfl rl26 rl33 e23 (fun ao24 cap24 rl34 => ?_)
         refine ⟨fun w' s => (s.select [1, 8, 10] (by decide) rfl), ?_⟩
         refine TQ 12 (by kernel_rfl) rfl (ov_indexAddr_bsl (j := 1) underlying76 sizeOf78 rfl rfl rfl (eq_of_beq hc9) rfl) ?_
         refine AL.any (rs := [13]) (by kernel_rfl) (by decide) ?_
         refine ALs.cons0 (i := 13) rfl (Runs.free rfl) rfl ?_ ?_
         ·
          refine os_store (i := 9) (vs := [(.slice ao24 (l15 ++ ([x12] : List Cell)).length cap24)]) (cs' := [(.slice ao17 l14.length cap17), (.slice ao24 (l15 ++ ([x12] : List Cell)).length cap24), (.slice ao19 l16.length cap19), (.slice ao20 l17.length cap20), (.slice ao21 l18.length cap21), (.slice ao22 l19.length cap22)]) sizeOf78 rfl rfl rfl rfl rfl rfl rfl rfl rfl ?_
          refine ⟨fun w' s => (s.select [1, 8, 10] (by decide) rfl), ?_⟩
          refine AL.done (by kernel_rfl) ?_
          refine bn (tn (WP.region (V rfl (ov_add rfl rfl rfl) (Vm rfl (WL.nil (tn ?_))))))
          exact ⟨(IntKind.wrap .i64 (i4 + 1)), l14, ao17, cap17, xs16, (l15 ++ ([x12] : List Cell)), ao24, cap24, (xs17 ++ [(.int .u8 x12.first), (.int .u8 x12.second)]), l16, ao19, cap19, xs18, l17, ao20, cap20, xs19, l18, ao21, cap21, xs20, l19, ao22, cap22, xs21, rl25, rl34, rl27, rl28, rl29, rl30, (Sub.all rfl), fun w' s => (s.select [1, 2, 3, 4, 5, 6, 7, 8, 9, 10] (by decide) rfl), hm⟩
         exact ALs.nil
        exact ALs.nil
       exact ALs.nil
      exact ALs.nil
     replace hm := ite_f hc9 hm
     rcases Bool.eq_false_or_eq_true (i4 == 2) with hc10 | hc10
     ·
      replace hm := ite_t hc10 hm
      refine TQ 4 (by kernel_rfl) rfl (ov_indexAddr_bsl (j := 2) underlying76 sizeOf78 rfl rfl rfl (eq_of_beq hc10) rfl) (TQ 6 (by kernel_rfl) rfl (ov_move rfl rfl) (TQ 7 (by kernel_rfl) rfl (ov_move rfl rfl) ?_))
      obtain ⟨x13, e24, hm⟩ := bind_some hm
      obtain ⟨h79, h80, h81, cs16, h82, h83⟩ := RL.get rl24 e24
      obtain rfl : cs16 = [(.int .u8 x13.first), (.int .u8 x13.second)] := h82
      refine TQ 8 (by kernel_rfl) rfl (ov_indexAddr_own (i := 0) underlying78 sizeOf80 rfl rfl rfl rfl h79 h80) (TQ 9 (by kernel_rfl) rfl (ov_load_owns (i := 0) (vs := [(.int .u8 x13.first), (.int .u8 x13.second)]) isAgg80 sizeOf80 rfl rfl rfl (own_pos h79 h80) rfl (fun j u hu => elem_cell h83 hu)) ?_)
      refine AL.any (rs := [5, 10]) (by kernel_rfl) (by decide) ?_
      refine ALs.cons (i := 5) rfl (Runs.free rfl) rfl rfl ?_ ?_
      ·
       refine OQ.step (OV.quiet (ov_load_box (i := 8) isAgg78 rfl rfl rfl rfl)) ?_
       refine ⟨fun w' s => (s.select [0, 7, 9] (by decide) rfl), ?_⟩
       refine AL.any (rs := [10]) (by kernel_rfl) (by decide) ?_
       refine ALs.cons (i := 10) rfl (Runs.free rfl) rfl rfl ?_ ?_
       ·
        have rl35 : RL H encCell ([x13] : List Cell) [(.int .u8 x13.first), (.int .u8 x13.second)] := RL.cons (cs := [(.int .u8 x13.first), (.int .u8 x13.second)]) (xs := []) rfl (RL.nil _ _)
        refine os_buildSlice (cs := [(.int .u8 x13.first), (.int .u8 x13.second)]) (E := 80) (sz := 2) rfl rfl (fun _ => by kernel_rfl) rfl (by decide) (fun b9 => ?_)
        refine ⟨fun w' s => (s.select [1, 8, 10] (by decide) rfl), ?_⟩
        refine AL.any (rs := [11]) (by kernel_rfl) (by decide) ?_
        refine ALs.cons (i := 11) rfl (Runs.free rfl) rfl rfl ?_ ?_
        ·
         obtain ⟨l22, e25, hm⟩ := bind_some hm
         refine os_app (i := 5) (j := 0) (En := encCell) (xs := xs18) (ys := [(.int .u8 x13.first), (.int .u8 x13.second)]) underlying78 (by kernel_rfl : (prog.info? 80).map (fun i => (i.zero, i.size, i.bytes)) = some (some (.agg #[(.int .u8 0), (.int .u8 0)]), (encCell).size, 2)) rfl (by decide) rfl rfl rfl rfl rfl rfl rl27 rl35 e25 (fun ao25 cap25 rl36 => ?_)
         refine ⟨fun w' s => (s.select [1, 8, 10] (by decide) rfl), ?_⟩
         refine TQ 12 (by kernel_rfl) rfl (ov_indexAddr_bsl (j := 2) underlying76 sizeOf78 rfl rfl rfl (eq_of_beq hc10) rfl) ?_
         refine AL.any (rs := [13]) (by kernel_rfl) (by decide) ?_
         refine ALs.cons0 (i := 13) rfl (Runs.free rfl) rfl ?_ ?_
         ·
          refine os_store (i := 9) (vs := [(.slice ao25 (l16 ++ ([x13] : List Cell)).length cap25)]) (cs' := [(.slice ao17 l14.length cap17), (.slice ao18 l15.length cap18), (.slice ao25 (l16 ++ ([x13] : List Cell)).length cap25), (.slice ao20 l17.length cap20), (.slice ao21 l18.length cap21), (.slice ao22 l19.length cap22)]) sizeOf78 rfl rfl rfl rfl rfl rfl rfl rfl rfl ?_
          refine ⟨fun w' s => (s.select [1, 8, 10] (by decide) rfl), ?_⟩
          refine AL.done (by kernel_rfl) ?_
          refine bn (tn (WP.region (V rfl (ov_add rfl rfl rfl) (Vm rfl (WL.nil (tn ?_))))))
          exact ⟨(IntKind.wrap .i64 (i4 + 1)), l14, ao17, cap17, xs16, l15, ao18, cap18, xs17, (l16 ++ ([x13] : List Cell)), ao25, cap25, (xs18 ++ [(.int .u8 x13.first), (.int .u8 x13.second)]), l17, ao20, cap20, xs19, l18, ao21, cap21, xs20, l19, ao22, cap22, xs21, rl25, rl26, rl36, rl28, rl29, rl30, (Sub.all rfl), fun w' s => (s.select [1, 2, 3, 4, 5, 6, 7, 8, 9, 10] (by decide) rfl), hm⟩
         exact ALs.nil
        exact ALs.nil
       exact ALs.nil
      refine ALs.cons (i := 10) rfl (Runs.free rfl) rfl rfl ?_ ?_
      ·
       have rl35 : RL H encCell ([x13] : List Cell) [(.int .u8 x13.first), (.int .u8 x13.second)] := RL.cons (cs := [(.int .u8 x13.first), (.int .u8 x13.second)]) (xs := []) rfl (RL.nil _ _)
       refine os_buildSlice (cs := [(.int .u8 x13.first), (.int .u8 x13.second)]) (E := 80) (sz := 2) rfl rfl (fun _ => by kernel_rfl) rfl (by decide) (fun b9 => ?_)
       refine ⟨fun w' s => (s.select [1, 8, 10] (by decide) rfl), ?_⟩
       refine AL.any (rs := [5]) (by kernel_rfl) (by decide) ?_
       refine ALs.cons (i := 5) rfl (Runs.free rfl) rfl rfl ?_ ?_
       ·
        refine OQ.step (OV.quiet (ov_load_box (i := 9) isAgg78 rfl rfl rfl rfl)) ?_
        refine ⟨fun w' s => (s.select [1, 8, 10] (by decide) rfl), ?_⟩
        refine AL.any (rs := [11]) (by kernel_rfl) (by decide) ?_
        refine ALs.cons (i := 11) rfl (Runs.free rfl) rfl rfl ?_ ?_
        ·
         obtain ⟨l22, e25, hm⟩ := bind_some hm
         refine os_app (i := 5) (j := 0) (En := encCell) (xs := xs18) (ys := [(.int .u8 x13.first), (.int .u8 x13.second)]) underlying78 (by kernel_rfl : (prog.info? 80).map (fun i => (i.zero, i.size, i.bytes)) = some (some (.agg #[(.int .u8 0), (.int .u8 0)]), (encCell).size, 2)) rfl (by decide) rfl rfl rfl rfl rfl rfl rl27 rl35 e25 (fun ao25 cap25 rl36 => ?_)
         refine ⟨fun w' s => (s.select [1, 8, 10] (by decide) rfl), ?_⟩
         refine TQ 12 (by kernel_rfl) rfl (ov_indexAddr_bsl (j := 2) underlying76 sizeOf78 rfl rfl rfl (eq_of_beq hc10) rfl) ?_
         refine AL.any (rs := [13]) (by kernel_rfl) (by decide) ?_
         refine ALs.cons0 (i := 13) rfl (Runs.free rfl) rfl ?_ ?_
         ·
          refine os_store (i := 9) (vs := [(.slice ao25 (l16 ++ ([x13] : List Cell)).length cap25)]) (cs' := [(.slice ao17 l14.length cap17), (.slice ao18 l15.length cap18), (.slice ao25 (l16 ++ ([x13] : List Cell)).length cap25), (.slice ao20 l17.length cap20), (.slice ao21 l18.length cap21), (.slice ao22 l19.length cap22)]) sizeOf78 rfl rfl rfl rfl rfl rfl rfl rfl rfl ?_
          refine ⟨fun w' s => (s.select [1, 8, 10] (by decide) rfl), ?_⟩
          refine AL.done (by kernel_rfl) ?_
          refine bn (tn (WP.region (V rfl (ov_add rfl rfl rfl) (Vm rfl (WL.nil (tn ?_))))))
          exact ⟨(IntKind.wrap .i64 (i4 + 1)), l14, ao17, cap17, xs16, l15, ao18, cap18, xs17, (l16 ++ ([x13] : List Cell)), ao25, cap25, (xs18 ++ [(.int .u8 x13.first), (.int .u8 x13.second)]), l17, ao20, cap20, xs19, l18, ao21, cap21, xs20, l19, ao22, cap22, xs21, rl25, rl26, rl36, rl28, rl29, rl30, (Sub.all rfl), fun w' s => (s.select [1, 2, 3, 4, 5, 6, 7, 8, 9, 10] (by decide) rfl), hm⟩
         exact ALs.nil
        exact ALs.nil
       exact ALs.nil
      exact ALs.nil
     replace hm := ite_f hc10 hm
     rcases Bool.eq_false_or_eq_true (i4 == 3) with hc11 | hc11
     ·
      replace hm := ite_t hc11 hm
      refine TQ 4 (by kernel_rfl) rfl (ov_indexAddr_bsl (j := 3) underlying76 sizeOf78 rfl rfl rfl (eq_of_beq hc11) rfl) (TQ 6 (by kernel_rfl) rfl (ov_move rfl rfl) (TQ 7 (by kernel_rfl) rfl (ov_move rfl rfl) ?_))
      obtain ⟨x14, e26, hm⟩ := bind_some hm
      obtain ⟨h84, h85, h86, cs17, h87, h88⟩ := RL.get rl24 e26
      obtain rfl : cs17 = [(.int .u8 x14.first), (.int .u8 x14.second)] := h87
      refine TQ 8 (by kernel_rfl) rfl (ov_indexAddr_own (i := 0) underlying78 sizeOf80 rfl rfl rfl rfl h84 h85) (TQ 9 (by kernel_rfl) rfl (ov_load_owns (i := 0) (vs := [(.int .u8 x14.first), (.int .u8 x14.second)]) isAgg80 sizeOf80 rfl rfl rfl (own_pos h84 h85) rfl (fun j u hu => elem_cell h88 hu)) ?_)
      refine AL.any (rs := [5, 10]) (by kernel_rfl) (by decide) ?_
      refine ALs.cons (i := 5) rfl (Runs.free rfl) rfl rfl ?_ ?_
      ·
       refine OQ.step (OV.quiet (ov_load_box (i := 8) isAgg78 rfl rfl rfl rfl)) ?_
       refine ⟨fun w' s => (s.select [0, 7, 9] (by decide) rfl), ?_⟩
       refine AL.any (rs := [10]) (by kernel_rfl) (by decide) ?_
       refine ALs.cons (i := 10) rfl (Runs.free rfl) rfl rfl ?_ ?_
       ·
        have rl37 : RL H encCell ([x14] : List Cell) [(.int .u8 x14.first), (.int .u8 x14.second)] := RL.cons (cs := [(.int .u8 x14.first), (.int .u8 x14.second)]) (xs := []) rfl (RL.nil _ _)
        refine os_buildSlice (cs := [(.int .u8 x14.first), (.int .u8 x14.second)]) (E := 80) (sz := 2) rfl rfl (fun _ => by kernel_rfl) rfl (by decide) (fun b10 => ?_)
        refine ⟨fun w' s => (s.select [1, 8, 10] (by decide) rfl), ?_⟩
        refine AL.any (rs := [11]) (by kernel_rfl) (by decide) ?_
        refine ALs.cons (i := 11) rfl (Runs.free rfl) rfl rfl ?_ ?_
        ·
         obtain ⟨l23, e27, hm⟩ := bind_some hm
         refine os_app (i := 4) (j := 0) (En := encCell) (xs := xs19) (ys := [(.int .u8 x14.first), (.int .u8 x14.second)]) underlying78 (by kernel_rfl : (prog.info? 80).map (fun i => (i.zero, i.size, i.bytes)) = some (some (.agg #[(.int .u8 0), (.int .u8 0)]), (encCell).size, 2)) rfl (by decide) rfl rfl rfl rfl rfl rfl rl28 rl37 e27 (fun ao26 cap26 rl38 => ?_)
         refine ⟨fun w' s => (s.select [1, 8, 10] (by decide) rfl), ?_⟩
         refine TQ 12 (by kernel_rfl) rfl (ov_indexAddr_bsl (j := 3) underlying76 sizeOf78 rfl rfl rfl (eq_of_beq hc11) rfl) ?_
         refine AL.any (rs := [13]) (by kernel_rfl) (by decide) ?_
         refine ALs.cons0 (i := 13) rfl (Runs.free rfl) rfl ?_ ?_
         ·
          refine os_store (i := 9) (vs := [(.slice ao26 (l17 ++ ([x14] : List Cell)).length cap26)]) (cs' := [(.slice ao17 l14.length cap17), (.slice ao18 l15.length cap18), (.slice ao19 l16.length cap19), (.slice ao26 (l17 ++ ([x14] : List Cell)).length cap26), (.slice ao21 l18.length cap21), (.slice ao22 l19.length cap22)]) sizeOf78 rfl rfl rfl rfl rfl rfl rfl rfl rfl ?_
          refine ⟨fun w' s => (s.select [1, 8, 10] (by decide) rfl), ?_⟩
          refine AL.done (by kernel_rfl) ?_
          refine bn (tn (WP.region (V rfl (ov_add rfl rfl rfl) (Vm rfl (WL.nil (tn ?_))))))
          exact ⟨(IntKind.wrap .i64 (i4 + 1)), l14, ao17, cap17, xs16, l15, ao18, cap18, xs17, l16, ao19, cap19, xs18, (l17 ++ ([x14] : List Cell)), ao26, cap26, (xs19 ++ [(.int .u8 x14.first), (.int .u8 x14.second)]), l18, ao21, cap21, xs20, l19, ao22, cap22, xs21, rl25, rl26, rl27, rl38, rl29, rl30, (Sub.all rfl), fun w' s => (s.select [1, 2, 3, 4, 5, 6, 7, 8, 9, 10] (by decide) rfl), hm⟩
         exact ALs.nil
        exact ALs.nil
       exact ALs.nil
      refine ALs.cons (i := 10) rfl (Runs.free rfl) rfl rfl ?_ ?_
      ·
       have rl37 : RL H encCell ([x14] : List Cell) [(.int .u8 x14.first), (.int .u8 x14.second)] := RL.cons (cs := [(.int .u8 x14.first), (.int .u8 x14.second)]) (xs := []) rfl (RL.nil _ _)
       refine os_buildSlice (cs := [(.int .u8 x14.first), (.int .u8 x14.second)]) (E := 80) (sz := 2) rfl rfl (fun _ => by kernel_rfl) rfl (by decide) (fun b10 => ?_)
       refine ⟨fun w' s => (s.select [1, 8, 10] (by decide) rfl), ?_⟩
       refine AL.any (rs := [5]) (by kernel_rfl) (by decide) ?_
       refine ALs.cons (i := 5) rfl (Runs.free rfl) rfl rfl ?_ ?_
       ·
        refine OQ.step (OV.quiet (ov_load_box (i := 9) isAgg78 rfl rfl rfl rfl)) ?_
        refine ⟨fun w' s => (s.select [1, 8, 10] (by decide) rfl), ?_⟩
        refine AL.any (rs := [11]) (by kernel_rfl) (by decide) ?_
        refine ALs.cons (i := 11) rfl (Runs.free rfl) rfl rfl ?_ ?_
        ·
         obtain ⟨l23, e27, hm⟩ := bind_some hm
         refine os_app (i := 4) (j := 0) (En := encCell) (xs := xs19) (ys := [(.int .u8 x14.first), (.int .u8 x14.second)]) underlying78 (by kernel_rfl : (prog.info? 80).map (fun i => (i.zero, i.size, i.bytes)) = some (some (.agg #[(.int .u8 0), (.int .u8 0)]), (encCell).size, 2)) rfl (by decide) rfl rfl rfl rfl rfl rfl rl28 rl37 e27 (fun ao26 cap26 rl38 => ?_)
         refine ⟨fun w' s => (s.select [1, 8, 10] (by decide) rfl), ?_⟩
         refine TQ 12 (by kernel_rfl) rfl (ov_indexAddr_bsl (j := 3) underlying76 sizeOf78 rfl rfl rfl (eq_of_beq hc11) rfl) ?_
         refine AL.any (rs := [13]) (by kernel_rfl) (by decide) ?_
         refine ALs.cons0 (i := 13) rfl (Runs.free rfl) rfl ?_ ?_
         ·
          refine os_store (i := 9) (vs := [(.slice ao26 (l17 ++ ([x14] : List Cell)).length cap26)]) (cs' := [(.slice ao17 l14.length cap17), (.slice ao18 l15.length cap18), (.slice ao19 l16.length cap19), (.slice ao26 (l17 ++ ([x14] : List Cell)).length cap26), (.slice ao21 l18.length cap21), (.slice ao22 l19.length cap22)]) sizeOf78 rfl rfl rfl rfl rfl rfl rfl rfl rfl ?_
          refine ⟨fun w' s => (s.select [1, 8, 10] (by decide) rfl), ?_⟩
          refine AL.done (by kernel_rfl) ?_
          refine bn (tn (WP.region (V rfl (ov_add rfl rfl rfl) (Vm rfl (WL.nil (tn ?_))))))
          exact ⟨(IntKind.wrap .i64 (i4 + 1)), l14, ao17, cap17, xs16, l15, ao18, cap18, xs17, l16, ao19, cap19, xs18, (l17 ++ ([x14] : List Cell)), ao26, cap26, (xs19 ++ [(.int .u8 x14.first), (.int .u8 x14.second)]), l18, ao21, cap21, xs20, l19, ao22, cap22, xs21, rl25, rl26, rl27, rl38, rl29, rl30, (Sub.all rfl), fun w' s => (s.select [1, 2, 3, 4, 5, 6, 7, 8, 9, 10] (by decide) rfl), hm⟩
         exact ALs.nil
        exact ALs.nil
       exact ALs.nil
      exact ALs.nil
     replace hm := ite_f hc11 hm
     rcases Bool.eq_false_or_eq_true (i4 == 4) with hc12 | hc12
     ·
      replace hm := ite_t hc12 hm
      refine TQ 4 (by kernel_rfl) rfl (ov_indexAddr_bsl (j := 4) underlying76 sizeOf78 rfl rfl rfl (eq_of_beq hc12) rfl) (TQ 6 (by kernel_rfl) rfl (ov_move rfl rfl) (TQ 7 (by kernel_rfl) rfl (ov_move rfl rfl) ?_))
      obtain ⟨x15, e28, hm⟩ := bind_some hm
      obtain ⟨h89, h90, h91, cs18, h92, h93⟩ := RL.get rl24 e28
      obtain rfl : cs18 = [(.int .u8 x15.first), (.int .u8 x15.second)] := h92
      refine TQ 8 (by kernel_rfl) rfl (ov_indexAddr_own (i := 0) underlying78 sizeOf80 rfl rfl rfl rfl h89 h90) (TQ 9 (by kernel_rfl) rfl (ov_load_owns (i := 0) (vs := [(.int .u8 x15.first), (.int .u8 x15.second)]) isAgg80 sizeOf80 rfl rfl rfl (own_pos h89 h90) rfl (fun j u hu => elem_cell h93 hu)) ?_)
      refine AL.any (rs := [5, 10]) (by kernel_rfl) (by decide) ?_
      refine ALs.cons (i := 5) rfl (Runs.free rfl) rfl rfl ?_ ?_
      ·
       refine OQ.step (OV.quiet (ov_load_box (i := 8) isAgg78 rfl rfl rfl rfl)) ?_
       refine ⟨fun w' s => (s.select [0, 7, 9] (by decide) rfl), ?_⟩
       refine AL.any (rs := [10]) (by kernel_rfl) (by decide) ?_
       refine ALs.cons (i := 10) rfl (Runs.free rfl) rfl rfl ?_ ?_
       ·
        have rl39 : RL H encCell ([x15] : List Cell) [(.int .u8 x15.first), (.int .u8 x15.second)] := RL.cons (cs := [(.int .u8 x15.first), (.int .u8 x15.second)]) (xs := []) rfl (RL.nil _ _)
        refine os_buildSlice (cs := [(.int .u8 x15.first), (.int .u8 x15.second)]) (E := 80) (sz := 2) rfl rfl (fun _ => by kernel_rfl) rfl (by decide) (fun b11 => ?_)
        refine ⟨fun w' s => (s.select [1, 8, 10] (by decide) rfl), ?_⟩
        refine AL.any (rs := [11]) (by kernel_rfl) (by decide) ?_
        refine ALs.cons (i := 11) rfl (Runs.free rfl) rfl rfl ?_ ?_
        ·
         obtain ⟨l24, e29, hm⟩ := bind_some hm
         refine os_app (i := 3) (j := 0) (En := encCell) (xs := xs20) (ys := [(.int .u8 x15.first), (.int .u8 x15.second)]) underlying78 (by kernel_rfl : (prog.info? 80).map (fun i => (i.zero, i.size, i.bytes)) = some (some (.agg #[(.int .u8 0), (.int .u8 0)]), (encCell).size, 2)) rfl (by decide) rfl rfl rfl rfl rfl rfl rl29 rl39 e29 (fun ao27 cap27 rl40 => ?_)
         refine ⟨fun w' s => (s.select [1, 8, 10] (by decide) rfl), ?_⟩
         refine TQ 12 (by kernel_rfl) rfl (ov_indexAddr_bsl (j := 4) underlying76 sizeOf78 rfl rfl rfl (eq_of_beq hc12) rfl) ?_
         refine AL.any (rs := [13]) (by kernel_rfl) (by decide) ?_
         refine ALs.cons0 (i := 13) rfl (Runs.free rfl) rfl ?_ ?_
         ·
          refine os_store (i := 9) (vs := [(.slice ao27 (l18 ++ ([x15] : List Cell)).length cap27)]) (cs' := [(.slice ao17 l14.length cap17), (.slice ao18 l15.length cap18), (.slice ao19 l16.length cap19), (.slice ao20 l17.length cap20), (.slice ao27 (l18 ++ ([x15] : List Cell)).length cap27), (.slice ao22 l19.length cap22)]) sizeOf78 rfl rfl rfl rfl rfl rfl rfl rfl rfl ?_
          refine ⟨fun w' s => (s.select [1, 8, 10] (by decide) rfl), ?_⟩
          refine AL.done (by kernel_rfl) ?_
          refine bn (tn (WP.region (V rfl (ov_add rfl rfl rfl) (Vm rfl (WL.nil (tn ?_))))))
          exact ⟨(IntKind.wrap .i64 (i4 + 1)), l14, ao17, cap17, xs16, l15, ao18, cap18, xs17, l16, ao19, cap19, xs18, l17, ao20, cap20, xs19, (l18 ++ ([x15] : List Cell)), ao27, cap27, (xs20 ++ [(.int .u8 x15.first), (.int .u8 x15.second)]), l19, ao22, cap22, xs21, rl25, rl26, rl27, rl28, rl40, rl30, (Sub.all rfl), fun w' s => (s.select [1, 2, 3, 4, 5, 6, 7, 8, 9, 10] (by decide) rfl), hm⟩
         exact ALs.nil
        exact ALs.nil
       exact ALs.nil
      refine ALs.cons (i := 10) rfl (Runs.free rfl) rfl rfl ?_ ?_
      ·
       have rl39 : RL H encCell ([x15] : List Cell) [(.int .u8 x15.first), (.int .u8 x15.second)] := RL.cons (cs := [(.int .u8 x15.first), (.int .u8 x15.second)]) (xs := []) rfl (RL.nil _ _)
       refine os_buildSlice (cs := [(.int .u8 x15.first), (.int .u8 x15.second)]) (E := 80) (sz := 2) rfl rfl (fun _ => by kernel_rfl) rfl (by decide) (fun b11 => ?_)
       refine ⟨fun w' s => (s.select [1, 8, 10] (by decide) rfl), ?_⟩
       refine AL.any (rs := [5]) (by kernel_rfl) (by decide) ?_
       refine ALs.cons (i := 5) rfl (Runs.free rfl) rfl rfl ?_ ?_
       ·
        refine OQ.step (OV.quiet (ov_load_box (i := 9) isAgg78 rfl rfl rfl rfl)) ?_
        refine ⟨fun w' s => (s.select [1, 8, 10] (by decide) rfl), ?_⟩
        refine AL.any (rs := [11]) (by kernel_rfl) (by decide) ?_
        refine ALs.cons (i := 11) rfl (Runs.free rfl) rfl rfl ?_ ?_
        ·
         obtain ⟨l24, e29, hm⟩ := bind_some hm
         refine os_app (i := 3) (j := 0) (En := encCell) (xs := xs20) (ys := [(.int .u8 x15.first), (.int .u8 x15.second)]) underlying78 (by kernel_rfl : (prog.info? 80).map (fun i => (i.zero, i.size, i.bytes)) = some (some (.agg #[(.int .u8 0), (.int .u8 0)]), (encCell).size, 2)) rfl (by decide) rfl rfl rfl rfl rfl rfl rl29 rl39 e29 (fun ao27 cap27 rl40 => ?_)
         refine ⟨fun w' s => (s.select [1, 8, 10] (by decide) rfl), ?_⟩
         refine TQ 12 (by kernel_rfl) rfl (ov_indexAddr_bsl (j := 4) underlying76 sizeOf78 rfl rfl rfl (eq_of_beq hc12) rfl) ?_
         refine AL.any (rs := [13]) (by kernel_rfl) (by decide) ?_
         refine ALs.cons0 (i := 13) rfl (Runs.free rfl) rfl ?_ ?_
         ·
          refine os_store (i := 9) (vs := [(.slice ao27 (l18 ++ ([x15] : List Cell)).length cap27)]) (cs' := [(.slice ao17 l14.length cap17), (.slice ao18 l15.length cap18), (.slice ao19 l16.length cap19), (.slice ao20 l17.length cap20), (.slice ao27 (l18 ++ ([x15] : List Cell)).length cap27), (.slice ao22 l19.length cap22)]) sizeOf78 rfl rfl rfl rfl rfl rfl rfl rfl rfl ?_
          refine ⟨fun w' s => (s.select [1, 8, 10] (by decide) rfl), ?_⟩
          refine AL.done (by kernel_rfl) ?_
          refine bn (tn (WP.region (V rfl (ov_add rfl rfl rfl) (Vm rfl (WL.nil (tn ?_))))))
          exact ⟨(IntKind.wrap .i64 (i4 + 1)), l14, ao17, cap17, xs16, l15, ao18, cap18, xs17, l16, ao19, cap19, xs18, l17, ao20, cap20, xs19, (l18 ++ ([x15] : List Cell)), ao27, cap27, (xs20 ++ [(.int .u8 x15.first), (.int .u8 x15.second)]), l19, ao22, cap22, xs21, rl25, rl26, rl27, rl28, rl40, rl30, (Sub.all rfl), fun w' s => (s.select [1, 2, 3, 4, 5, 6, 7, 8, 9, 10] (by decide) rfl), hm⟩
         exact ALs.nil
        exact ALs.nil
       exact ALs.nil
      exact ALs.nil
     replace hm := ite_f hc12 hm
     rcases Bool.eq_false_or_eq_true (i4 == 5) with hc13 | hc13
     ·
      replace hm := ite_t hc13 hm
      refine TQ 4 (by kernel_rfl) rfl (ov_indexAddr_bsl (j := 5) underlying76 sizeOf78 rfl rfl rfl (eq_of_beq hc13) rfl) (TQ 6 (by kernel_rfl) rfl (ov_move rfl rfl) (TQ 7 (by kernel_rfl) rfl (ov_move rfl rfl) ?_))
      obtain ⟨x16, e30, hm⟩ := bind_some hm
      obtain ⟨h94, h95, h96, cs19, h97, h98⟩ := RL.get rl24 e30
      obtain rfl : cs19 = [(.int .u8 x16.first), (.int .u8 x16.second)] := h97
      refine TQ 8 (by kernel_rfl) rfl (ov_indexAddr_own (i := 0) underlying78 sizeOf80 rfl rfl rfl rfl h94 h95) (TQ 9 (by kernel_rfl) rfl (ov_load_owns (i := 0) (vs := [(.int .u8 x16.first), (.int .u8 x16.second)]) isAgg80 sizeOf80 rfl rfl rfl (own_pos h94 h95) rfl (fun j u hu => elem_cell h98 hu)) ?_)
      refine AL.any (rs := [5, 10]) (by kernel_rfl) (by decide) ?_
      refine ALs.cons (i := 5) rfl (Runs.free rfl) rfl rfl ?_ ?_
      ·
       refine OQ.step (OV.quiet (ov_load_box (i := 8) isAgg78 rfl rfl rfl rfl)) ?_
       refine ⟨fun w' s => (s.select [0, 7, 9] (by decide) rfl), ?_⟩
       refine AL.any (rs := [10]) (by kernel_rfl) (by decide) ?_
       refine ALs.cons (i := 10) rfl (Runs.free rfl) rfl rfl ?_ ?_
       ·
        have rl41 : RL H encCell ([x16] : List Cell) [(.int .u8 x16.first), (.int .u8 x16.second)] := RL.cons (cs := [(.int .u8 x16.first), (.int .u8 x16.second)]) (xs := []) rfl (RL.nil _ _)
        refine os_buildSlice (cs := [(.int .u8 x16.first), (.int .u8 x16.second)]) (E := 80) (sz := 2) rfl rfl (fun _ => by kernel_rfl) rfl (by decide) (fun b12 => ?_)
        refine ⟨fun w' s => (s.select [1, 8, 10] (by decide) rfl), ?_⟩
        refine AL.any (rs := [11]) (by kernel_rfl) (by decide) ?_
        refine ALs.cons (i := 11) rfl (Runs.free rfl) rfl rfl ?_ ?_
        ·
         obtain ⟨l25, e31, hm⟩ := bind_some hm
         refine os_app (i := 2) (j := 0) (En := encCell) (xs := xs21) (ys := [(.int .u8 x16.first), (.int .u8 x16.second)]) underlying78 (by kernel_rfl : (prog.info? 80).map (fun i => (i.zero, i.size, i.bytes)) = some (some (.agg #[(.int .u8 0), (.int .u8 0)]), (encCell).size, 2)) rfl (by decide) rfl rfl rfl rfl rfl rfl rl30 rl41 e31 (fun ao28 cap28 rl42 => ?_)
         refine ⟨fun w' s => (s.select [1, 8, 10] (by decide) rfl), ?_⟩
         refine TQ 12 (by kernel_rfl) rfl (ov_indexAddr_bsl (j := 5) underlying76 sizeOf78 rfl rfl rfl (eq_of_beq hc13) rfl) ?_
         refine AL.any (rs := [13]) (by kernel_rfl) (by decide) ?_
         refine ALs.cons0 (i := 13) rfl (Runs.free rfl) rfl ?_ ?_
         ·
          refine os_store (i := 9) (vs := [(.slice ao28 (l19 ++ ([x16] : List Cell)).length cap28)]) (cs' := [(.slice ao17 l14.length cap17), (.slice ao18 l15.length cap18), (.slice ao19 l16.length cap19), (.slice ao20 l17.length cap20), (.slice ao21 l18.length cap21), (.slice ao28 (l19 ++ ([x16] : List Cell)).length cap28)]) sizeOf78 rfl rfl rfl rfl rfl rfl rfl rfl rfl ?_
          refine ⟨fun w' s => (s.select [1, 8, 10] (by decide) rfl), ?_⟩
          refine AL.done (by kernel_rfl) ?_
          refine bn (tn (WP.region (V rfl (ov_add rfl rfl rfl) (Vm rfl (WL.nil (tn ?_))))))
          exact ⟨(IntKind.wrap .i64 (i4 + 1)), l14, ao17, cap17, xs16, l15, ao18, cap18, xs17, l16, ao19, cap19, xs18, l17, ao20, cap20, xs19, l18, ao21, cap21, xs20, (l19 ++ ([x16] : List Cell)), ao28, cap28, (xs21 ++ [(.int .u8 x16.first), (.int .u8 x16.second)]), rl25, rl26, rl27, rl28, rl29, rl42, (Sub.all rfl), fun w' s => (s.select [1, 2, 3, 4, 5, 6, 7, 8, 9, 10] (by decide) rfl), hm⟩
         exact ALs.nil
        exact ALs.nil
       exact ALs.nil
      refine ALs.cons (i := 10) rfl (Runs.free rfl) rfl rfl ?_ ?_
      ·
       have rl41 : RL H encCell ([x16] : List Cell) [(.int .u8 x16.first), (.int .u8 x16.second)] := RL.cons (cs := [(.int .u8 x16.first), (.int .u8 x16.second)]) (xs := []) rfl (RL.nil _ _)
       refine os_buildSlice (cs := [(.int .u8 x16.first), (.int .u8 x16.second)]) (E := 80) (sz := 2) rfl rfl (fun _ => by kernel_rfl) rfl (by decide) (fun b12 => ?_)
       refine ⟨fun w' s => (s.select [1, 8, 10] (by decide) rfl), ?_⟩
       refine AL.any (rs := [5]) (by kernel_rfl) (by decide) ?_
       refine ALs.cons (i := 5) rfl (Runs.free rfl) rfl rfl ?_ ?_
       ·
        refine OQ.step (OV.quiet (ov_load_box (i := 9) isAgg78 rfl rfl rfl rfl)) ?_
        refine ⟨fun w' s => (s.select [1, 8, 10] (by decide) rfl), ?_⟩
        refine AL.any (rs := [11]) (by kernel_rfl) (by decide) ?_
        refine ALs.cons (i := 11) rfl (Runs.free rfl) rfl rfl ?_ ?_
        ·
         obtain ⟨l25, e31, hm⟩ := bind_some hm
         refine os_app (i := 2) (j := 0) (En := encCell) (xs := xs21) (ys := [(.int .u8 x16.first), (.int .u8 x16.second)]) underlying78 (by kernel_rfl : (prog.info? 80).map (fun i => (i.zero, i.size, i.bytes)) = some (some (.agg #[(.int .u8 0), (.int .u8 0)]), (encCell).size, 2)) rfl (by decide) rfl rfl rfl rfl rfl rfl rl30 rl41 e31 (fun ao28 cap28 rl42 => ?_)
         refine ⟨fun w' s => (s.select [1, 8, 10] (by decide) rfl), ?_⟩
         refine TQ 12 (by kernel_rfl) rfl (ov_indexAddr_bsl (j := 5) underlying76 sizeOf78 rfl rfl rfl (eq_of_beq hc13) rfl) ?_
         refine AL.any (rs := [13]) (by kernel_rfl) (by decide) ?_
         refine ALs.cons0 (i := 13) rfl (Runs.free rfl) rfl ?_ ?_
         ·
          refine os_store (i := 9) (vs := [(.slice ao28 (l19 ++ ([x16] : List Cell)).length cap28)]) (cs' := [(.slice ao17 l14.length cap17), (.slice ao18 l15.length cap18), (.slice ao19 l16.length cap19), (.slice ao20 l17.length cap20), (.slice ao21 l18.length cap21), (.slice ao28 (l19 ++ ([x16] : List Cell)).length cap28)]) sizeOf78 rfl rfl rfl rfl rfl rfl rfl rfl rfl ?_
          refine ⟨fun w' s => (s.select [1, 8, 10] (by decide) rfl), ?_⟩
          refine AL.done (by kernel_rfl) ?_
          refine bn (tn (WP.region (V rfl (ov_add rfl rfl rfl) (Vm rfl (WL.nil (tn ?_))))))
          exact ⟨(IntKind.wrap .i64 (i4 + 1)), l14, ao17, cap17, xs16, l15, ao18, cap18, xs17, l16, ao19, cap19, xs18, l17, ao20, cap20, xs19, l18, ao21, cap21, xs20, (l19 ++ ([x16] : List Cell)), ao28, cap28, (xs21 ++ [(.int .u8 x16.first), (.int .u8 x16.second)]), rl25, rl26, rl27, rl28, rl29, rl42, (Sub.all rfl), fun w' s => (s.select [1, 2, 3, 4, 5, 6, 7, 8, 9, 10] (by decide) rfl), hm⟩
         exact ALs.nil
        exact ALs.nil
       exact ALs.nil
      exact ALs.nil
     replace hm := ite_f hc13 hm
     exact (none_some hm).elim
    replace hm := ite_f hc7 hm
    refine WP.exit (then_exit (then_exit (block_here (bn (tn ?_)))))
    exact ⟨l12, ao15, cap15, xs14, l14, ao17, cap17, xs16, l15, ao18, cap18, xs17, l16, ao19, cap19, xs18, l17, ao20, cap20, xs19, l18, ao21, cap21, xs20, l19, ao22, cap22, xs21, rl23, rl25, rl26, rl27, rl28, rl29, rl30, (Sub.all rfl), fun w' s => (s.select [1, 2, 3, 4, 5, 6, 7, 8, 9] (by decide) rfl), hm⟩
   rintro g' S' ⟨l26, ao29, cap29, xs22, l27, ao30, cap30, xs23, l28, ao31, cap31, xs24, l29, ao32, cap32, xs25, l30, ao33, cap33, xs26, l31, ao34, cap34, xs27, l32, ao35, cap35, xs28, rl43, rl44, rl45, rl46, rl47, rl48, rl49, hsub7, hS7, hm⟩
   refine WP.sub hsub7 (WP.weaken hS7 ?_)
   replace hm := (congrFun (congrFun (congrFun (congrFun (congrFun (congrFun (congrFun hk2 l26) l27) l28) l29) l30) l31) l32).symm.trans hm
   refine WP.region (V rfl (ov_add rfl rfl rfl) (Vm rfl (WL.nil (tn ?_))))
   exact ⟨(IntKind.wrap .i64 (i1 + 1)), l26, ao29, cap29, xs22, l27, ao30, cap30, xs23, l28, ao31, cap31, xs24, l29, ao32, cap32, xs25, l30, ao33, cap33, xs26, l31, ao34, cap34, xs27, l32, ao35, cap35, xs28, rl43, rl44, rl45, rl46, rl47, rl48, rl49, (Sub.all rfl), fun w' s => s, hm⟩
  replace hm := ite_f hc3 hm
  refine WP.exit (then_exit (then_exit (block_here (tn ?_))))
  exact ⟨l2, ao4, cap4, xs3, l3, ao5, cap5, xs4, l4, ao6, cap6, xs5, l5, ao7, cap7, xs6, l6, ao8, cap8, xs7, l7, ao9, cap9, xs8, rl9, rl10, rl11, rl12, rl13, rl14, (Sub.all rfl), fun w' s => (s.select [0, 1, 2, 3, 4, 5, 7] (by decide) rfl), hm⟩
 rintro g' S' ⟨l33, ao36, cap36, xs29, l34, ao37, cap37, xs30, l35, ao38, cap38, xs31, l36, ao39, cap39, xs32, l37, ao40, cap40, xs33, l38, ao41, cap41, xs34, rl50, rl51, rl52, rl53, rl54, rl55, hsub8, hS8, hm⟩
 refine WP.sub hsub8 (WP.weaken hS8 ?_)
 replace hm := (congrFun (congrFun (congrFun (congrFun (congrFun (congrFun hk1 l33) l34) l35) l36) l37) l38).symm.trans hm
 refine WP.seq (WP.region (Vm rfl ?_))
 refine WL.weaken (fun _ s => s.select [5, 0, 1, 2, 3, 4, 6] (by decide) rfl) ?_
 refine WL.held rl50 (fun H1 hc14 hle1 h99 => ?_)
 replace rl55 := rl55.mono hle1
 replace rl54 := rl54.mono hle1
 replace rl53 := rl53.mono hle1
 replace rl52 := rl52.mono hle1
 replace rl51 := rl51.mono hle1
 refine WL.weaken (fun _ s => s.select [4, 0, 1, 2, 3, 5] (by decide) rfl) ?_
 refine WL.held rl51 (fun H2 hc15 hle2 h100 => ?_)
 replace rl55 := rl55.mono hle2
 replace rl54 := rl54.mono hle2
 replace rl53 := rl53.mono hle2
 replace rl52 := rl52.mono hle2
 replace h99 := h99.mono hle2
 refine WL.weaken (fun _ s => s.select [3, 0, 1, 2, 4] (by decide) rfl) ?_
 refine WL.held rl52 (fun H3 hc16 hle3 h101 => ?_)
 replace rl55 := rl55.mono hle3
 replace rl54 := rl54.mono hle3
 replace rl53 := rl53.mono hle3
 replace h99 := h99.mono hle3
 replace h100 := h100.mono hle3
 refine WL.weaken (fun _ s => s.select [2, 0, 1, 3] (by decide) rfl) ?_
 refine WL.held rl53 (fun H4 hc17 hle4 h102 => ?_)
 replace rl55 := rl55.mono hle4
 replace rl54 := rl54.mono hle4
 replace h99 := h99.mono hle4
 replace h100 := h100.mono hle4
 replace h101 := h101.mono hle4
 refine WL.weaken (fun _ s => s.select [1, 0, 2] (by decide) rfl) ?_
 refine WL.held rl54 (fun H5 hc18 hle5 h103 => ?_)
 replace rl55 := rl55.mono hle5
 replace h99 := h99.mono hle5
 replace h100 := h100.mono hle5
 replace h101 := h101.mono hle5
 replace h102 := h102.mono hle5
 refine WL.held rl55 (fun H6 hc19 hle6 h104 => ?_)
 replace h99 := h99.mono hle6
 replace h100 := h100.mono hle6
 replace h101 := h101.mono hle6
 replace h102 := h102.mono hle6
 replace h103 := h103.mono hle6
 have rl56 : RL H6 (encSl encCell) ([l33, l34, l35, l36, l37, l38] : List (List Cell)) [(.slice ao36 l33.length cap36), (.slice ao37 l34.length cap37), (.slice ao38 l35.length cap38), (.slice ao39 l36.length cap39), (.slice ao40 l37.length cap40), (.slice ao41 l38.length cap41)] := RL.cons (cs := [(.slice ao36 l33.length cap36)]) (xs := [(.slice ao37 l34.length cap37), (.slice ao38 l35.length cap38), (.slice ao39 l36.length cap39), (.slice ao40 l37.length cap40), (.slice ao41 l38.length cap41)]) ⟨ao36, cap36, rfl, h99, hc14⟩ (RL.cons (cs := [(.slice ao37 l34.length cap37)]) (xs := [(.slice ao38 l35.length cap38), (.slice ao39 l36.length cap39), (.slice ao40 l37.length cap40), (.slice ao41 l38.length cap41)]) ⟨ao37, cap37, rfl, h100, hc15⟩ (RL.cons (cs := [(.slice ao38 l35.length cap38)]) (xs := [(.slice ao39 l36.length cap39), (.slice ao40 l37.length cap40), (.slice ao41 l38.length cap41)]) ⟨ao38, cap38, rfl, h101, hc16⟩ (RL.cons (cs := [(.slice ao39 l36.length cap39)]) (xs := [(.slice ao40 l37.length cap40), (.slice ao41 l38.length cap41)]) ⟨ao39, cap39, rfl, h102, hc17⟩ (RL.cons (cs := [(.slice ao40 l37.length cap40)]) (xs := [(.slice ao41 l38.length cap41)]) ⟨ao40, cap40, rfl, h103, hc18⟩ (RL.cons (cs := [(.slice ao41 l38.length cap41)]) (xs := []) ⟨ao41, cap41, rfl, h104, hc19⟩ (RL.nil _ _))))))
 refine WL.weaken (fun _ s => s.blk_rowN (N := 6) (sz := 1) rfl (by decide)) ?_
 refine Va rfl (WL.nil (tn (WP.ret ?_)))
 obtain rfl := Option.some.inj hm
 refine retQ_ret results43 (Res.tmp rfl Res.nil) rfl (fun w' s => ⟨s.below, ?_⟩)
 obtain ⟨h105, hc20⟩ := s.ret_row (i := 0) rfl rl56
 exact ⟨(some ⟨b2, 0, none⟩), 6, rfl, h105, hc20⟩
theorem diagram_cells_con (p_s : Sequence) (ao1 : Option Addr) (cap1 : Nat) (w : World) (H : Heap) (hH : Le H (hp w)) (h1 : SL H encStep ao1 p_s.steps) (hc1 : p_s.steps.length ≤ cap1) (hG : Glob H) (r : (List (List Cell))) (hm : diagram_cells p_s = some r) :
  Con prog 43 [(.agg #[(.int .i64 p_s.actuators), (.slice ao1 p_s.steps.length cap1)])] w H (fun v H' => ∃ (ao2 : Option Addr) (cap2 : Nat), v = (.slice ao2 r.length cap2) ∧ SL H' (encSl encCell) ao2 r ∧ r.length ≤ cap2) := by
 unfold diagram_cells at hm
 rcases Bool.eq_false_or_eq_true (p_s.actuators == 1) with hc | hc
 ·
  replace hm := ite_t hc hm
  exact diagram_cells1_con p_s ao1 cap1 w H hH h1 hc1 hG hc r hm
 replace hm := ite_f hc hm
 rcases Bool.eq_false_or_eq_true (p_s.actuators == 2) with hc | hc
 ·
  replace hm := ite_t hc hm
  exact diagram_cells2_con p_s ao1 cap1 w H hH h1 hc1 hG hc r hm
 replace hm := ite_f hc hm
 rcases Bool.eq_false_or_eq_true (p_s.actuators == 3) with hc | hc
 ·
  replace hm := ite_t hc hm
  exact diagram_cells3_con p_s ao1 cap1 w H hH h1 hc1 hG hc r hm
 replace hm := ite_f hc hm
 rcases Bool.eq_false_or_eq_true (p_s.actuators == 4) with hc | hc
 ·
  replace hm := ite_t hc hm
  exact diagram_cells4_con p_s ao1 cap1 w H hH h1 hc1 hG hc r hm
 replace hm := ite_f hc hm
 rcases Bool.eq_false_or_eq_true (p_s.actuators == 5) with hc | hc
 ·
  replace hm := ite_t hc hm
  exact diagram_cells5_con p_s ao1 cap1 w H hH h1 hc1 hG hc r hm
 replace hm := ite_f hc hm
 rcases Bool.eq_false_or_eq_true (p_s.actuators == 6) with hc | hc
 ·
  replace hm := ite_t hc hm
  exact diagram_cells6_con p_s ao1 cap1 w H hH h1 hc1 hG hc r hm
 replace hm := ite_f hc hm
 exact (none_some hm).elim
theorem diagram_letter_con (p_a : Int) (w : World) (H : Heap) (hH : Le H (hp w)) (hG : Glob H) (r : (List UInt8)) (hm : diagram_letter p_a = some r) :
  Con prog 45 [(.int .i64 p_a)] w H (fun v _ => v = (mkS r)) := by
 unfold diagram_letter at hm
 refine con_of hH func45 rfl 7 ntmps45 rfl ?_
 refine WP.seq (WP.region (Va rfl (WL.nil (tn (WP.seq (WP.region (Vm rfl (V rfl (ov_add rfl rfl rfl) (V rfl (ov_convert_int underlying3 underlying21 rfl rfl) (V rfl (ov_convert_rune' underlying21 underlying9 rfl rfl) (Va rfl (WL.nil (tn ?_)))))))))))))
 refine WP.ret ?_
 obtain rfl := Option.some.inj hm
 refine retQ_ret results45 (Res.tmp rfl Res.nil) rfl (fun w' s => ⟨s.below, ?_⟩)
 exact rfl
theorem diagram_draw_con (p_s : Sequence) (ao1 : Option Addr) (cap1 : Nat) (w : World) (H : Heap) (hH : Le H (hp w)) (h1 : SL H encStep ao1 p_s.steps) (hc1 : p_s.steps.length ≤ cap1) (hG : Glob H) (r : (List (List UInt8))) (hm : diagram_draw p_s = some r) :
  Con prog 41 [(.agg #[(.int .i64 p_s.actuators), (.slice ao1 p_s.steps.length cap1)])] w H (fun v H' => ∃ (ao2 : Option Addr) (cap2 : Nat), v = (.slice ao2 r.length cap2) ∧ SL H' encStr ao2 r ∧ r.length ≤ cap2) := by
 unfold diagram_draw at hm
 refine con_of hH func41 rfl 36 ntmps41 rfl ?_
 refine WP.seq (WP.region ?_)
 refine ws rfl (os_box (cs := [(.int .i64 p_s.actuators), (.slice ao1 p_s.steps.length cap1)]) rfl rfl rfl (fun b1 => ?_))
 refine Va rfl (WL.nil (tn (WP.seq (WP.region (V rfl (ov_load_whole (i := 0) isAgg24 sizeOf24 rfl rfl rfl rfl) ?_)))))
 refine ws rfl (os_inline (cap := []) (vs := [(.agg #[(.int .i64 p_s.actuators), (.slice ao1 p_s.steps.length cap1)]), (.func (.func 53) #[] #[])]) call49 rfl rfl rfl func49 rfl 46 ntmps49 rfl (fun w' s => ?_))
 refine WP.seq (WP.region ?_)
 refine ws rfl (os_box (cs := [(.int .i64 p_s.actuators), (.slice ao1 p_s.steps.length cap1)]) rfl rfl rfl (fun b2 => ?_))
 refine Va rfl (WL.nil (tn (WP.seq (WP.region (Va rfl (WL.nil (tn ?_)))))))
 obtain ⟨k1, hk1, hm⟩ := joinK_some hm
 refine WP.seq_join (fun g' S' => ∃ (H2 : Heap) (l9 : (List (List UInt8))) (ao13 : Option Addr) (cap13 : Nat) (xs5 : List Value), Le H H2 ∧ RL H2 encStr l9 xs5 ∧ Sub [(5, (.slice ao13 l9.length cap13)), (1000000007, (.bool false))] g' ∧ (∀ w', S' w' → St w H [.row 9 (encStr).size l9.length (.slice ao13 l9.length cap13) xs5, .blk b1 24 [(.int .i64 p_s.actuators), (.slice ao1 p_s.steps.length cap1)]] H2 w') ∧ k1 l9 = some r) ?_ ?_
 ·
  refine WP.seq (WP.region (V rfl (ov_load_whole (i := 0) isAgg24 sizeOf24 rfl rfl rfl rfl) ?_))
  obtain ⟨r1, e1, hm⟩ := bind_some hm
  refine ws rfl (os_con call43 rfl rfl (fun w' s => (diagram_cells_con p_s ao1 cap1  w' H s.hold h1 hc1 hG r1 e1)) (fun rr1 H1 hle1 hR1 => ?_))
  replace h1 := h1.mono hle1
  replace hG := hG.mono hle1
  obtain ⟨ao3, cap3, rfl, h3, hc3⟩ := hR1
  refine V rfl (ov_len_slice underlying76 rfl rfl) (Vm rfl (WL.nil (tn (WP.block ?_))))
  have rl1 := RL.nil (α := (List UInt8)) H1 encStr
  refine WP.weaken (fun _ s => s.nilrow 9 (encStr).size) ?_
  refine WP.loop (fun m1 g' S' => ∃ (i1 : Int) (l1 : (List (List UInt8))) (ao4 : Option Addr) (cap4 : Nat) (xs1 : List Value), RL H1 encStr l1 xs1 ∧ Sub [(1, (.func (.func 53) #[] #[])), (5, (.slice ao4 l1.length cap4)), (12, (.slice ao3 r1.length cap3)), (13, (.int .i64 (r1.length : Int))), (14, (.int .i64 i1)), (1000000007, (.bool false))] g' ∧ (∀ w', S' w' → St w H [.row 9 (encStr).size l1.length (.slice ao4 l1.length cap4) xs1, .blk b1 24 [(.int .i64 p_s.actuators), (.slice ao1 p_s.steps.length cap1)]] H1 w') ∧ diagram_draw_loop1 k1 r1 m1 i1 l1 = some r) ((Int.toNat ((r1.length : Int) - 0) + 1)) ⟨0, ([] : List (List UInt8)), none, 0, [], rl1, (Sub.all rfl), fun w' s => (s.select [0, 2] (by decide) rfl), hm⟩ ?_ ?_
  ·
   rintro g' S' ⟨_, _, _, _, _, _, _, _, hm⟩
   exact none_some hm
  rintro m1 g' S' ⟨i1, l1, ao4, cap4, xs1, rl2, hsub1, hS1, hm⟩
  refine WP.sub hsub1 (WP.weaken hS1 ?_)
  rw [diagram_draw_loop1] at hm
  refine WP.seq (WP.region (V rfl (ov_lss rfl rfl rfl) (WL.nil (tn (WP.seq ?_)))))
  refine WP.cond rfl (fun hc4 => ?_) (fun hc4 => ?_)
  ·
   replace hm := ite_t hc4 hm
   refine WP.skip (tn ?_)
   obtain ⟨k2, hk2, hm⟩ := joinK_some hm
   refine WP.seq_join (fun g' S' => ∃ (l8 : (List (List UInt8))) (ao12 : Option Addr) (cap12 : Nat) (xs4 : List Value), RL H1 encStr l8 xs4 ∧ Sub [(1, (.func (.func 53) #[] #[])), (5, (.slice ao12 l8.length cap12)), (12, (.slice ao3 r1.length cap3)), (13, (.int .i64 (r1.length : Int))), (14, (.int .i64 i1)), (1000000007, (.bool false))] g' ∧ (∀ w', S' w' → St w H [.row 9 (encStr).size l8.length (.slice ao12 l8.length cap12) xs4, .blk b1 24 [(.int .i64 p_s.actuators), (.slice ao1 p_s.steps.length cap1)]] H1 w') ∧ k2 l8 = some r) ?_ ?_
   ·
    refine WP.block (WP.seq (WP.region (Vm rfl ?_)))
    obtain ⟨x1, e2, hm⟩ := bind_some hm
    obtain ⟨h5, h6, h7, cs1, h8, h9⟩ := h3.get e2 (by decide)
    obtain ⟨ao5, cap5, rfl, h4, hc5⟩ := h8
    refine V rfl (ov_indexAddr underlying76 sizeOf78 rfl rfl rfl h5 h6 h7) (V rfl (ov_load_elem (v := (.slice ao5 x1.length cap5)) isAgg78 rfl rfl h9) (Va rfl (Va rfl (WL.nil (tn (WP.seq (WP.region (V rfl (ov_build (r := (.agg #[(.pointer none), (.slice none 0 0)])) rfl rfl (fun _ => by kernel_rfl)) ?_))))))))
    refine WL.within (fun w1 s1 => ?_)
    have sv1 := h3
    replace h3 := h3.mono s1.hold
    have sv2 := h9
    replace h9 := h9.mono s1.hold
    have sv3 := h4
    replace h4 := h4.mono s1.hold
    have sv4 := h1
    replace h1 := h1.mono s1.hold
    have sv5 := rl2
    replace rl2 := rl2.mono s1.hold
    have sv6 := hG
    replace hG := hG.mono s1.hold
    have h10 : RowAt (hp w1) (some ⟨b1, 0, none⟩) 0 [(.int .i64 p_s.actuators), (.slice ao1 p_s.steps.length cap1)] := s1.box_row (i := 1) rfl
    refine ws rfl (os_box (cs := [(.pointer none), (.slice none 0 0)]) rfl rfl rfl (fun b3 => ?_))
    refine Va rfl (WL.nil (tn (WP.seq (WP.region (Vm rfl (Vm rfl ?_))))))
    obtain ⟨r2, e3, hm⟩ := bind_some hm
    refine wo rfl (oq_con (r := (mkS r2)) call45 rfl rfl (fun w' s => ⟨_, (diagram_letter_con i1  w' (hp w1) s.hold hG r2 e3)⟩)) ?_
    obtain ⟨s2, e4, hm⟩ := bind_some hm
    refine V rfl (ov_sadd' e4 rfl rfl rfl) ?_
    refine ws rfl (os_inline (cap := []) (vs := [(pB b3 0), (mkS s2)]) call82 rfl rfl rfl func82 rfl 19 ntmps82 rfl (fun w' s => ?_))
    refine WP.seq (WP.region (Va rfl (Va rfl (WL.nil (tn (WP.seq (WP.region (Vm rfl ?_))))))))
    refine ws rfl (os_copyCheck (i := 0) rfl rfl rfl (.inl rfl) ?_)
    refine WL.nil (tn (WP.seq (WP.region (Vm rfl (Vm rfl (V rfl (ov_nilCheckB rfl rfl) (V rfl (ov_fieldAddr underlying123 rfl rfl rfl sizeOf75 rfl rfl) (Vl 0 isAgg75 rfl (Vm rfl ?_)))))))))
    have rl3 := RL.nil (α := UInt8) (hp w1) encByte
    refine WL.weaken (fun _ s => s.nilrow 5 (encByte).size) ?_
    obtain ⟨l2, e5, hm⟩ := bind_some hm
    refine ws rfl (os_app_str (i := 0) (xs := []) underlying75 underlying9 (by kernel_rfl : (prog.info? 5).map (fun i => (i.zero, i.size, i.bytes)) = some (some (.int .u8 0), 1, 1)) rfl rfl rfl rfl rl3 e5 (fun ao6 cap6 ys1 rl4 => ?_))
    refine V rfl (ov_nilCheckB rfl rfl) (V rfl (ov_fieldAddr underlying123 rfl rfl rfl sizeOf75 rfl rfl) ?_)
    refine ws0 rfl (os_store (i := 1) (vs := [(.slice ao6 (([] : List UInt8) ++ s2).length cap6)]) (cs' := [(pB b3 0), (.slice ao6 (([] : List UInt8) ++ s2).length cap6)]) sizeOf75 rfl rfl rfl rfl rfl rfl rfl rfl rfl ?_)
    refine WL.nil (tn (WP.seq (WP.region (Vm rfl (V rfl (ov_len_string underlying9 rfl rfl) (Va rfl (Va rfl (WL.nil (tn (WP.ret ?_))))))))))
    refine retQ_ret (v := (.tuple #[(.int .i64 (s2.length : Int)), .nilIface])) results82 (Res.tmp rfl (Res.tmp rfl Res.nil)) rfl (fun w' s => ⟨_, ?_, s⟩)
    refine WL.nil (tn ?_)
    obtain ⟨k3, hk3, hm⟩ := joinK_some hm
    refine WP.seq_join (fun g' S' => ∃ (l6 : (List UInt8)) (ao10 : Option Addr) (cap10 : Nat) (xs3 : List Value), RL (hp w1) encByte l6 xs3 ∧ Sub [(1, (.func (.func 53) #[] #[])), (5, (.slice ao4 l1.length cap4)), (8, (pB b3 0)), (12, (.slice ao3 r1.length cap3)), (13, (.int .i64 (r1.length : Int))), (14, (.int .i64 i1)), (1000000007, (.bool false))] g' ∧ (∀ w', S' w' → St w1 (hp w1) [.row 5 (encByte).size l6.length (.slice ao10 l6.length cap10) xs3, .blk b3 123 [(pB b3 0), (.slice ao10 l6.length cap10)]] (hp w1) w') ∧ k3 l6 = some r) ?_ ?_
    ·
     refine WP.seq (WP.region (Vm rfl (V rfl (ov_len_slice underlying78 rfl rfl) (Vm rfl (WL.nil (tn (WP.block ?_)))))))
     refine WP.loop (fun m2 g' S' => ∃ (i2 : Int) (l3 : (List UInt8)) (ao7 : Option Addr) (cap7 : Nat) (xs2 : List Value), RL (hp w1) encByte l3 xs2 ∧ Sub [(1, (.func (.func 53) #[] #[])), (5, (.slice ao4 l1.length cap4)), (8, (pB b3 0)), (12, (.slice ao3 r1.length cap3)), (13, (.int .i64 (r1.length : Int))), (14, (.int .i64 i1)), (26, (.slice ao5 x1.length cap5)), (27, (.int .i64 (x1.length : Int))), (28, (.int .i64 i2)), (1000000007, (.bool false))] g' ∧ (∀ w', S' w' → St w1 (hp w1) [.row 5 (encByte).size l3.length (.slice ao7 l3.length cap7) xs2, .blk b3 123 [(pB b3 0), (.slice ao7 l3.length cap7)]] (hp w1) w') ∧ diagram_draw_loop2 x1 k3 m2 i2 l3 = some r) ((Int.toNat ((x1.length : Int) - 0) + 1)) ⟨0, (([] : List UInt8) ++ s2), ao6, cap6, ([] ++ ys1), rl4, (Sub.all rfl), fun w' s => s, hm⟩ ?_ ?_
     ·
      rintro g' S' ⟨_, _, _, _, _, _, _, _, hm⟩
      exact none_some hm
     rintro m2 g' S' ⟨i2, l3, ao7, cap7, xs2, rl5, hsub2, hS2, hm⟩
     refine WP.sub hsub2 (WP.weaken hS2 ?_)
     rw [diagram_draw_loop2] at hm
     refine WP.seq (WP.region (V rfl (ov_lss rfl rfl rfl) (WL.nil (tn (WP.seq ?_)))))
     refine WP.cond rfl (fun hc6 => ?_) (fun hc6 => ?_)
     ·
      replace hm := ite_t hc6 hm
      refine WP.skip (tn (WP.seq (WP.block (WP.seq (WP.region (Vm rfl ?_))))))
      obtain ⟨x2, e6, hm⟩ := bind_some hm
      obtain ⟨h11, h12, h13, cs2, h14, h15⟩ := h4.get e6 (by decide)
      obtain rfl : cs2 = [(.int .u8 x2.first), (.int .u8 x2.second)] := h14
      refine V rfl (ov_indexAddr underlying78 sizeOf80 rfl rfl rfl h11 h12 h13) (V rfl (ov_load_elems (vs := [(.int .u8 x2.first), (.int .u8 x2.second)]) isAgg80 sizeOf80 rfl rfl rfl h15 h13) ?_)
      refine ws rfl (os_alloc (cs := [(.int .u8 0), (.int .u8 0)]) zeroValue80 rfl rfl (fun b4 => ?_))
      refine Va rfl ?_
      refine ws0 rfl (os_store (i := 0) (vs := [(.int .u8 x2.first), (.int .u8 x2.second)]) (cs' := [(.int .u8 x2.first), (.int .u8 x2.second)]) sizeOf80 rfl rfl rfl rfl rfl rfl rfl rfl rfl ?_)
      refine WL.nil (tn (WP.region (Vm rfl (Vm rfl (Vm rfl (V rfl (ov_load_whole (i := 0) isAgg80 sizeOf80 rfl rfl rfl rfl) ?_))))))
      refine ws rfl (os_inline (cap := []) (vs := [(pB b3 0), (.int .i64 i2), (.agg #[(.int .u8 x2.first), (.int .u8 x2.second)])]) call53 rfl rfl rfl func53 rfl 14 ntmps53 rfl (fun w' s => ?_))
      refine WP.seq (WP.region ?_)
      refine ws rfl (os_box (cs := [(.int .u8 x2.first), (.int .u8 x2.second)]) rfl rfl rfl (fun b5 => ?_))
      refine WL.nil (tn (WP.seq (WP.region (Vm rfl (V rfl (ov_fieldAddr underlying80 rfl rfl rfl sizeOf5 rfl rfl) (Vl 0 isAgg5 rfl ?_))))))
      refine ws rfl (os_inline (cap := []) (vs := [(pB b3 0), (.int .u8 x2.first)]) call52 rfl rfl rfl func52 rfl 17 ntmps52 rfl (fun w' s => ?_))
      refine WP.seq (WP.region (Va rfl (WL.nil (tn (WP.seq (WP.region (Vm rfl ?_)))))))
      refine ws rfl (os_copyCheck (i := 3) rfl rfl rfl (.inr rfl) ?_)
      refine WL.nil (tn (WP.seq (WP.region (Vm rfl (Vm rfl (V rfl (ov_nilCheckB rfl rfl) (V rfl (ov_fieldAddr underlying123 rfl rfl rfl sizeOf75 rfl rfl) (Vl 3 isAgg75 rfl (Vm rfl ?_)))))))))
      obtain ⟨u1, e7, hm⟩ := bind_some hm
      replace e7 := guardO_some e7
      have rl6 : RL (hp w1) encByte ([(UInt8.ofNat (Int.toNat x2.first))] : List UInt8) [(.int .u8 x2.first)] := RL.byte1 e7
      refine ws rfl (os_buildSlice (cs := [(.int .u8 x2.first)]) (E := 5) (sz := 1) rfl rfl (fun _ => by kernel_rfl) rfl (by decide) (fun b6 => ?_))
      obtain ⟨l4, e8, hm⟩ := bind_some hm
      refine ws rfl (os_app (i := 3) (j := 0) (En := encByte) (xs := xs2) (ys := [(.int .u8 x2.first)]) underlying75 (by kernel_rfl : (prog.info? 5).map (fun i => (i.zero, i.size, i.bytes)) = some (some (.int .u8 0), (encByte).size, 1)) rfl (by decide) rfl rfl rfl rfl rfl rfl rl5 rl6 e8 (fun ao8 cap8 rl7 => ?_))
      refine V rfl (ov_nilCheckB rfl rfl) (V rfl (ov_fieldAddr underlying123 rfl rfl rfl sizeOf75 rfl rfl) ?_)
      refine ws0 rfl (os_store (i := 4) (vs := [(.slice ao8 (l3 ++ ([(UInt8.ofNat (Int.toNat x2.first))] : List UInt8)).length cap8)]) (cs' := [(pB b3 0), (.slice ao8 (l3 ++ ([(UInt8.ofNat (Int.toNat x2.first))] : List UInt8)).length cap8)]) sizeOf75 rfl rfl rfl rfl rfl rfl rfl rfl rfl ?_)
      refine WL.nil (tn (WP.seq (WP.region (Va rfl (WL.nil (tn (WP.ret ?_)))))))
      refine retQ_ret (v := .nilIface) results52 (Res.tmp rfl Res.nil) rfl (fun w' s => ⟨_, ?_, s⟩)
      refine WL.nil (tn (WP.region (Vm rfl (V rfl (ov_fieldAddr underlying80 rfl rfl rfl sizeOf5 rfl rfl) (Vl 1 isAgg5 rfl ?_)))))
      refine ws rfl (os_inline (cap := []) (vs := [(pB b3 0), (.int .u8 x2.second)]) call52 rfl rfl rfl func52 rfl 17 ntmps52 rfl (fun w' s => ?_))
      refine WP.seq (WP.region (Va rfl (WL.nil (tn (WP.seq (WP.region (Vm rfl ?_)))))))
      refine ws rfl (os_copyCheck (i := 4) rfl rfl rfl (.inr rfl) ?_)
      refine WL.nil (tn (WP.seq (WP.region (Vm rfl (Vm rfl (V rfl (ov_nilCheckB rfl rfl) (V rfl (ov_fieldAddr underlying123 rfl rfl rfl sizeOf75 rfl rfl) (Vl 4 isAgg75 rfl (Vm rfl ?_)))))))))
      obtain ⟨u2, e9, hm⟩ := bind_some hm
      replace e9 := guardO_some e9
      have rl8 : RL (hp w1) encByte ([(UInt8.ofNat (Int.toNat x2.second))] : List UInt8) [(.int .u8 x2.second)] := RL.byte1 e9
      refine ws rfl (os_buildSlice (cs := [(.int .u8 x2.second)]) (E := 5) (sz := 1) rfl rfl (fun _ => by kernel_rfl) rfl (by decide) (fun b7 => ?_))
      obtain ⟨l5, e10, hm⟩ := bind_some hm
      refine ws rfl (os_app (i := 4) (j := 0) (En := encByte) (xs := (xs2 ++ [(.int .u8 x2.first)])) (ys := [(.int .u8 x2.second)]) underlying75 (by kernel_rfl : (prog.info? 5).map (fun i => (i.zero, i.size, i.bytes)) = some (some (.int .u8 0), (encByte).size, 1)) rfl (by decide) rfl rfl rfl rfl rfl rfl rl7 rl8 e10 (fun ao9 cap9 rl9 => ?_))
      refine V rfl (ov_nilCheckB rfl rfl) (V rfl (ov_fieldAddr underlying123 rfl rfl rfl sizeOf75 rfl rfl) ?_)
      refine ws0 rfl (os_store (i := 5) (vs := [(.slice ao9 ((l3 ++ ([(UInt8.ofNat (Int.toNat x2.first))] : List UInt8)) ++ ([(UInt8.ofNat (Int.toNat x2.second))] : List UInt8)).length cap9)]) (cs' := [(pB b3 0), (.slice ao9 ((l3 ++ ([(UInt8.ofNat (Int.toNat x2.first))] : List UInt8)) ++ ([(UInt8.ofNat (Int.toNat x2.second))] : List UInt8)).length cap9)]) sizeOf75 rfl rfl rfl rfl rfl rfl rfl rfl rfl ?_)
      refine WL.nil (tn (WP.seq (WP.region (Va rfl (WL.nil (tn (WP.ret ?_)))))))
      refine retQ_ret (v := .nilIface) results52 (Res.tmp rfl Res.nil) rfl (fun w' s => ⟨_, ?_, s⟩)
      refine WL.nil ?_
      refine retQ_end (v := (.tuple #[])) results53 Res.nil rfl (fun w' s => ⟨_, ?_, s⟩)
      refine WL.nil (bn (tn (WP.region (V rfl (ov_add rfl rfl rfl) (Vm rfl (WL.nil (tn ?_)))))))
      exact ⟨(IntKind.wrap .i64 (i2 + 1)), ((l3 ++ ([(UInt8.ofNat (Int.toNat x2.first))] : List UInt8)) ++ ([(UInt8.ofNat (Int.toNat x2.second))] : List UInt8)), ao9, cap9, ((xs2 ++ [(.int .u8 x2.first)]) ++ [(.int .u8 x2.second)]), rl9, (Sub.all rfl), fun w' s => (s.select [4, 5] (by decide) rfl), hm⟩
     replace hm := ite_f hc6 hm
     refine WP.exit (then_exit (then_exit (block_here (tn ?_))))
     exact ⟨l3, ao7, cap7, xs2, rl5, (Sub.all rfl), fun w' s => s, hm⟩
    rintro g' S' ⟨l6, ao10, cap10, xs3, rl10, hsub3, hS3, hm⟩
    refine WP.sub hsub3 (WP.weaken hS3 ?_)
    replace hm := (congrFun hk3 l6).symm.trans hm
    refine WP.region (Vm rfl (Vm rfl ?_))
    have h3 := sv1
    have h9 := sv2
    have h4 := sv3
    have h1 := sv4
    have rl2 := sv5
    have hG := sv6
    refine ws rfl (os_bstring_in s1 (i := 1) (j := 0) rfl rfl rfl rfl (.inr rfl) rl10 ?_)
    have rl11 : RL H1 encStr ([l6] : List (List UInt8)) [(mkS l6)] := RL.cons (cs := [(mkS l6)]) (xs := []) rfl (RL.nil _ _)
    refine ws rfl (os_buildSlice (cs := [(mkS l6)]) (E := 9) (sz := 1) rfl rfl (fun _ => by kernel_rfl) rfl (by decide) (fun b8 => ?_))
    obtain ⟨l7, e11, hm⟩ := bind_some hm
    refine ws rfl (os_app (i := 1) (j := 0) (En := encStr) (xs := xs1) (ys := [(mkS l6)]) underlying27 (by kernel_rfl : (prog.info? 9).map (fun i => (i.zero, i.size, i.bytes)) = some (some (mkS []), (encStr).size, 16)) rfl (by decide) rfl rfl rfl rfl rfl rfl rl2 rl11 e11 (fun ao11 cap11 rl12 => ?_))
    refine Va rfl (WL.nil (bn (tn ?_)))
    exact ⟨(l1 ++ ([l6] : List (List UInt8))), ao11, cap11, (xs1 ++ [(mkS l6)]), rl12, (Sub.all rfl), fun w' s => (s.select [1, 2] (by decide) rfl), hm⟩
   rintro g' S' ⟨l8, ao12, cap12, xs4, rl13, hsub4, hS4, hm⟩
   refine WP.sub hsub4 (WP.weaken hS4 ?_)
   replace hm := (congrFun hk2 l8).symm.trans hm
   refine WP.region (V rfl (ov_add rfl rfl rfl) (Vm rfl (WL.nil (tn ?_))))
   exact ⟨(IntKind.wrap .i64 (i1 + 1)), l8, ao12, cap12, xs4, rl13, (Sub.all rfl), fun w' s => s, hm⟩
  replace hm := ite_f hc4 hm
  refine WP.exit (then_exit (then_exit (block_here (tn ?_))))
  exact ⟨H1, l1, ao4, cap4, xs1, hle1, rl2, (Sub.all rfl), fun w' s => s, hm⟩
 rintro g' S' ⟨H2, l9, ao13, cap13, xs5, hle2, rl14, hsub5, hS5, hm⟩
 refine WP.sub hsub5 (WP.weaken hS5 ?_)
 replace hm := (congrFun hk1 l9).symm.trans hm
 replace h1 := h1.mono hle2
 replace hG := hG.mono hle2
 refine WP.seq (WP.region (Vm rfl (Va rfl (WL.nil (tn (WP.ret ?_))))))
 refine retQ_ret (v := (.slice ao13 l9.length cap13)) results49 (Res.tmp rfl Res.nil) rfl (fun w' s => ⟨_, ?_, s⟩)
 refine Va rfl (WL.nil (tn ?_))
 obtain ⟨k4, hk4, hm⟩ := joinK_some hm
 refine WP.seq_join (fun g' S' => ∃ (l15 : (List (List UInt8))) (ao20 : Option Addr) (cap20 : Nat) (xs8 : List Value), RL H2 encStr l15 xs8 ∧ Sub [(3, (.slice ao20 l15.length cap20)), (1000000007, (.bool false))] g' ∧ (∀ w', S' w' → St w H [.row 9 (encStr).size l15.length (.slice ao20 l15.length cap20) xs8] H2 w') ∧ k4 l15 = some r) ?_ ?_
 ·
  refine WP.seq (WP.region (V rfl (ov_fieldAddr underlying24 rfl rfl rfl sizeOf22 rfl rfl) (Vl 1 isAgg22 rfl ?_)))
  obtain ⟨r3, e12, hm⟩ := bind_some hm
  refine wo rfl (oq_con (r := (.bool r3)) call80 rfl rfl (fun w' s => ⟨_, (slices_ContainsFunc_api_Stepapi_Step_diagram_draw_1_con p_s.steps ao1 cap1  w' H2 s.hold h1 hc1 hG r3 e12)⟩)) ?_
  refine WL.nil (tn ?_)
  refine WP.cond rfl (fun hc7 => ?_) (fun hc7 => ?_)
  ·
   replace hm := ite_t hc7 hm
   refine WP.seq (WP.region (V rfl (ov_build (r := (.agg #[(.pointer none), (.slice none 0 0)])) rfl rfl (fun _ => by kernel_rfl)) ?_))
   refine WL.within (fun w2 s3 => ?_)
   have sv7 := h1
   replace h1 := h1.mono s3.hold
   have sv8 := rl14
   replace rl14 := rl14.mono s3.hold
   have sv9 := hG
   replace hG := hG.mono s3.hold
   have h16 : RowAt (hp w2) (some ⟨b1, 0, none⟩) 0 [(.int .i64 p_s.actuators), (.slice ao1 p_s.steps.length cap1)] := s3.box_row (i := 1) rfl
   refine ws rfl (os_box (cs := [(.pointer none), (.slice none 0 0)]) rfl rfl rfl (fun b9 => ?_))
   refine Va rfl (WL.nil (tn (WP.seq (WP.region (Vm rfl ?_)))))
   refine ws rfl (os_inline (cap := []) (vs := [(pB b9 0), (mkS [84])]) call82 rfl rfl rfl func82 rfl 19 ntmps82 rfl (fun w' s => ?_))
   refine WP.seq (WP.region (Va rfl (Va rfl (WL.nil (tn (WP.seq (WP.region (Vm rfl ?_))))))))
   refine ws rfl (os_copyCheck (i := 0) rfl rfl rfl (.inl rfl) ?_)
   refine WL.nil (tn (WP.seq (WP.region (Vm rfl (Vm rfl (V rfl (ov_nilCheckB rfl rfl) (V rfl (ov_fieldAddr underlying123 rfl rfl rfl sizeOf75 rfl rfl) (Vl 0 isAgg75 rfl (Vm rfl ?_)))))))))
   have rl15 := RL.nil (α := UInt8) (hp w2) encByte
   refine WL.weaken (fun _ s => s.nilrow 5 (encByte).size) ?_
   obtain ⟨l10, e13, hm⟩ := bind_some hm
   refine ws rfl (os_app_str (i := 0) (xs := []) underlying75 underlying9 (by kernel_rfl : (prog.info? 5).map (fun i => (i.zero, i.size, i.bytes)) = some (some (.int .u8 0), 1, 1)) rfl rfl rfl rfl rl15 e13 (fun ao14 cap14 ys2 rl16 => ?_))
   refine V rfl (ov_nilCheckB rfl rfl) (V rfl (ov_fieldAddr underlying123 rfl rfl rfl sizeOf75 rfl rfl) ?_)
   refine ws0 rfl (os_store (i := 1) (vs := [(.slice ao14 (([] : List UInt8) ++ [84]).length cap14)]) (cs' := [(pB b9 0), (.slice ao14 (([] : List UInt8) ++ [84]).length cap14)]) sizeOf75 rfl rfl rfl rfl rfl rfl rfl rfl rfl ?_)
   refine WL.nil (tn (WP.seq (WP.region (Vm rfl (V rfl (ov_len_string underlying9 rfl rfl) (Va rfl (Va rfl (WL.nil (tn (WP.ret ?_))))))))))
   refine retQ_ret (v := (.tuple #[(.int .i64 (([84] : List UInt8).length : Int)), .nilIface])) results82 (Res.tmp rfl (Res.tmp rfl Res.nil)) rfl (fun w' s => ⟨_, ?_, s⟩)
   refine WL.nil (tn ?_)
   obtain ⟨k5, hk5, hm⟩ := joinK_some hm
   refine WP.seq_join (fun g' S' => ∃ (l13 : (List UInt8)) (ao18 : Option Addr) (cap18 : Nat) (xs7 : List Value), RL (hp w2) encByte l13 xs7 ∧ Sub [(3, (.slice ao13 l9.length cap13)), (4, (pB b9 0)), (1000000007, (.bool false))] g' ∧ (∀ w', S' w' → St w2 (hp w2) [.row 5 (encByte).size l13.length (.slice ao18 l13.length cap18) xs7, .blk b9 123 [(pB b9 0), (.slice ao18 l13.length cap18)]] (hp w2) w') ∧ k5 l13 = some r) ?_ ?_
   ·
    refine WP.seq (WP.region (V rfl (ov_fieldAddrE (ao := (some ⟨b1, 0, none⟩)) (k := 0) underlying24 rfl rfl rfl sizeOf22 rfl rfl) ?_))
    refine V rfl (ov_load_elem (v := (.slice ao1 p_s.steps.length cap1)) isAgg22 rfl rfl (h16.one (off := 1) rfl)) (V rfl (ov_len_slice underlying22 rfl rfl) (Vm rfl (WL.nil (tn (WP.block ?_)))))
    refine WP.loop (fun m3 g' S' => ∃ (i3 : Int) (l11 : (List UInt8)) (ao15 : Option Addr) (cap15 : Nat) (xs6 : List Value), RL (hp w2) encByte l11 xs6 ∧ Sub [(3, (.slice ao13 l9.length cap13)), (4, (pB b9 0)), (17, (.slice ao1 p_s.steps.length cap1)), (18, (.int .i64 (p_s.steps.length : Int))), (19, (.int .i64 i3)), (1000000007, (.bool false))] g' ∧ (∀ w', S' w' → St w2 (hp w2) [.row 5 (encByte).size l11.length (.slice ao15 l11.length cap15) xs6, .blk b9 123 [(pB b9 0), (.slice ao15 l11.length cap15)]] (hp w2) w') ∧ diagram_draw_loop3 p_s k5 m3 i3 l11 = some r) ((Int.toNat ((p_s.steps.length : Int) - 0) + 1)) ⟨0, (([] : List UInt8) ++ [84]), ao14, cap14, ([] ++ ys2), rl16, (Sub.all rfl), fun w' s => s, hm⟩ ?_ ?_
    ·
     rintro g' S' ⟨_, _, _, _, _, _, _, _, hm⟩
     exact none_some hm
    rintro m3 g' S' ⟨i3, l11, ao15, cap15, xs6, rl17, hsub6, hS6, hm⟩
    refine WP.sub hsub6 (WP.weaken hS6 ?_)
    rw [diagram_draw_loop3] at hm
    refine WP.seq (WP.region (V rfl (ov_lss rfl rfl rfl) (WL.nil (tn (WP.seq ?_)))))
    refine WP.cond rfl (fun hc8 => ?_) (fun hc8 => ?_)
    ·
     replace hm := ite_t hc8 hm
     refine WP.skip (tn (WP.seq (WP.block (WP.seq (WP.region ?_)))))
     obtain ⟨x3, e14, hm⟩ := bind_some hm
     obtain ⟨h18, h19, h20, cs3, h21, h22⟩ := h1.get e14 (by decide)
     obtain ⟨ao16, cap16, rfl, h17, hc9⟩ := h21
     refine V rfl (ov_indexAddr underlying22 sizeOf45 rfl rfl rfl h18 h19 h20) (V rfl (ov_load_elems (vs := [(.slice ao16 x3.strokes.length cap16), (.int .i64 x3.wait)]) isAgg45 sizeOf45 rfl rfl rfl h22 h20) ?_)
     refine ws rfl (os_alloc (cs := [(.slice none 0 0), (.int .i64 0)]) zeroValue45 rfl rfl (fun b10 => ?_))
     refine ws0 rfl (os_store (i := 0) (vs := [(.slice ao16 x3.strokes.length cap16), (.int .i64 x3.wait)]) (cs' := [(.slice ao16 x3.strokes.length cap16), (.int .i64 x3.wait)]) sizeOf45 rfl rfl rfl rfl rfl rfl rfl rfl rfl ?_)
     refine WL.nil (tn (WP.region (Vm rfl (V rfl (ov_fieldAddr underlying45 rfl rfl rfl sizeOf3 rfl rfl) (Vl 0 isAgg3 rfl ?_)))))
     obtain ⟨r4, e15, hm⟩ := bind_some hm
     refine wo rfl (oq_con (r := (mkS r4)) call83 rfl rfl (fun w' s => ⟨_, (itoa_con x3.wait  w' (hp w2) s.hold hG r4 e15)⟩)) ?_
     obtain ⟨s4, e16, hm⟩ := bind_some hm
     refine V rfl (ov_sadd' e16 rfl rfl rfl) ?_
     refine ws rfl (os_inline (cap := []) (vs := [(pB b9 0), (mkS s4)]) call82 rfl rfl rfl func82 rfl 19 ntmps82 rfl (fun w' s => ?_))
     refine WP.seq (WP.region (Va rfl (Va rfl (WL.nil (tn (WP.seq (WP.region (Vm rfl ?_))))))))
     refine ws rfl (os_copyCheck (i := 2) rfl rfl rfl (.inr rfl) ?_)
     refine WL.nil (tn (WP.seq (WP.region (Vm rfl (Vm rfl (V rfl (ov_nilCheckB rfl rfl) (V rfl (ov_fieldAddr underlying123 rfl rfl rfl sizeOf75 rfl rfl) (Vl 2 isAgg75 rfl (Vm rfl ?_)))))))))
     obtain ⟨l12, e17, hm⟩ := bind_some hm
     refine ws rfl (os_app_str (i := 1) (xs := xs6) underlying75 underlying9 (by kernel_rfl : (prog.info? 5).map (fun i => (i.zero, i.size, i.bytes)) = some (some (.int .u8 0), 1, 1)) rfl rfl rfl rfl rl17 e17 (fun ao17 cap17 ys3 rl18 => ?_))
     refine V rfl (ov_nilCheckB rfl rfl) (V rfl (ov_fieldAddr underlying123 rfl rfl rfl sizeOf75 rfl rfl) ?_)
     refine ws0 rfl (os_store (i := 2) (vs := [(.slice ao17 (l11 ++ s4).length cap17)]) (cs' := [(pB b9 0), (.slice ao17 (l11 ++ s4).length cap17)]) sizeOf75 rfl rfl rfl rfl rfl rfl rfl rfl rfl ?_)
     refine WL.nil (tn (WP.seq (WP.region (Vm rfl (V rfl (ov_len_string underlying9 rfl rfl) (Va rfl (Va rfl (WL.nil (tn (WP.ret ?_))))))))))
     refine retQ_ret (v := (.tuple #[(.int .i64 (s4.length : Int)), .nilIface])) results82 (Res.tmp rfl (Res.tmp rfl Res.nil)) rfl (fun w' s => ⟨_, ?_, s⟩)
     refine WL.nil (bn (tn (WP.region (V rfl (ov_add rfl rfl rfl) (Vm rfl (WL.nil (tn ?_)))))))
     exact ⟨(IntKind.wrap .i64 (i3 + 1)), (l11 ++ s4), ao17, cap17, (xs6 ++ ys3), rl18, (Sub.all rfl), fun w' s => (s.select [1, 2] (by decide) rfl), hm⟩
    replace hm := ite_f hc8 hm
    refine WP.exit (then_exit (then_exit (block_here (tn ?_))))
    exact ⟨l11, ao15, cap15, xs6, rl17, (Sub.all rfl), fun w' s => s, hm⟩
   rintro g' S' ⟨l13, ao18, cap18, xs7, rl19, hsub7, hS7, hm⟩
   refine WP.sub hsub7 (WP.weaken hS7 ?_)
   replace hm := (congrFun hk5 l13).symm.trans hm
   refine WP.region (Vm rfl (Vm rfl ?_))
   have h1 := sv7
   have rl14 := sv8
   have hG := sv9
   refine ws rfl (os_bstring_in s3 (i := 1) (j := 0) rfl rfl rfl rfl (.inr rfl) rl19 ?_)
   have rl20 : RL H2 encStr ([l13] : List (List UInt8)) [(mkS l13)] := RL.cons (cs := [(mkS l13)]) (xs := []) rfl (RL.nil _ _)
   refine ws rfl (os_buildSlice (cs := [(mkS l13)]) (E := 9) (sz := 1) rfl rfl (fun _ => by kernel_rfl) rfl (by decide) (fun b11 => ?_))
   obtain ⟨l14, e18, hm⟩ := bind_some hm
   refine ws rfl (os_app (i := 1) (j := 0) (En := encStr) (xs := xs5) (ys := [(mkS l13)]) underlying27 (by kernel_rfl : (prog.info? 9).map (fun i => (i.zero, i.size, i.bytes)) = some (some (mkS []), (encStr).size, 16)) rfl (by decide) rfl rfl rfl rfl rfl rfl rl14 rl20 e18 (fun ao19 cap19 rl21 => ?_))
   refine Va rfl (WL.nil (tn ?_))
   exact ⟨(l9 ++ ([l13] : List (List UInt8))), ao19, cap19, (xs5 ++ [(mkS l13)]), rl21, (Sub.all rfl), fun w' s => (s.select [1] (by decide) rfl), hm⟩
  replace hm := ite_f hc7 hm
  refine WP.skip (tn ?_)
  exact ⟨l9, ao13, cap13, xs5, rl14, (Sub.all rfl), fun w' s => (s.select [0] (by decide) rfl), hm⟩
 rintro g' S' ⟨l15, ao20, cap20, xs8, rl22, hsub8, hS8, hm⟩
 refine WP.sub hsub8 (WP.weaken hS8 ?_)
 replace hm := (congrFun hk4 l15).symm.trans hm
 refine WP.seq (WP.region (Vm rfl (Va rfl (WL.nil (tn (WP.ret ?_))))))
 obtain rfl := Option.some.inj hm
 refine retQ_ret results41 (Res.tmp rfl Res.nil) rfl (fun w' s => ⟨s.below, ?_⟩)
 obtain ⟨h23, hc10⟩ := s.ret_row (i := 0) rfl rl22
 exact ⟨ao20, cap20, rfl, h23, hc10⟩
end Go.Proofs.YtbckcjjffbgidaaGreatDoor.W
