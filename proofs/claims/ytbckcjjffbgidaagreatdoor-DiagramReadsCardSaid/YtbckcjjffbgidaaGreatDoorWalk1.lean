/- The walks. Written by our own program gen.py; Lean checks it. -/
import Derived.Test.YtbckcjjffbgidaaGreatDoorPlain
import Derived.Test.YtbckcjjffbgidaaGreatDoorEqs
import Derived.Test.YtbckcjjffbgidaaGreatDoorProg
import Derived.Test.YtbckcjjffbgidaaGreatDoorExt
import Derived.Test.YtbckcjjffbgidaaGreatDoorBuild
import Derived.Test.YtbckcjjffbgidaaGreatDoorClone
import Derived.Test.YtbckcjjffbgidaaGreatDoorWalk0
set_option linter.unusedVariables false
set_option maxRecDepth 100000
set_option maxHeartbeats 4000000
namespace Go.Proofs.YtbckcjjffbgidaaGreatDoor.W
open Go Go.RowKit Go.Proofs.Tryz
theorem diagram_cells2_con (p_s : Sequence) (ao1 : Option Addr) (cap1 : Nat) (w : World) (H : Heap) (hH : Le H (hp w)) (h1 : SL H encStep ao1 p_s.steps) (hc1 : p_s.steps.length ≤ cap1) (hG : Glob H) (hn : (p_s.actuators == 2) = true) (r : (List (List Cell))) (hm : diagram_cells2 p_s = some r) :
  Con prog 43 [(.agg #[(.int .i64 p_s.actuators), (.slice ao1 p_s.steps.length cap1)])] w H (fun v H' => ∃ (ao2 : Option Addr) (cap2 : Nat), v = (.slice ao2 r.length cap2) ∧ SL H' (encSl encCell) ao2 r ∧ r.length ≤ cap2) := by
 unfold diagram_cells2 at hm
 refine con_of hH func43 rfl 99 ntmps43 rfl ?_
 refine WP.seq (WP.region ?_)
 refine ws rfl (os_box (cs := [(.int .i64 p_s.actuators), (.slice ao1 p_s.steps.length cap1)]) rfl rfl rfl (fun b1 => ?_))
 refine Va rfl (WL.nil (tn (WP.seq (WP.region (V rfl (ov_fieldAddr underlying24 rfl rfl rfl sizeOf3 rfl rfl) (Vl 0 isAgg3 rfl ?_))))))
 refine ws rfl (os_makeSlice_n (N := 2) (sz := 1) (bytes := 24) (z := (.slice none 0 0)) (cs := [(.slice none 0 0), (.slice none 0 0)]) underlying76 (by kernel_rfl) (by kernel_rfl) rfl rfl rfl (eq_of_beq hn) (by decide) (by decide) (fun b2 => ?_))
 refine Va rfl (WL.nil (tn (WP.seq (WP.region (V rfl (ov_fieldAddr underlying24 rfl rfl rfl sizeOf3 rfl rfl) (Vl 1 isAgg3 rfl ?_))))))
 obtain ⟨u1, e1, hm⟩ := bind_some hm
 replace e1 := guardO_some e1
 refine ws rfl (os_makeSlice (En := encBool) (z := (.bool false)) (y0 := false) (bytes := 1) underlying49 (by kernel_rfl) rfl (by decide) rfl rfl rfl e1 (fun b3 xs1 rl1 => ?_))
 refine Va rfl (WL.nil (tn ?_))
 obtain ⟨k1, hk1, hm⟩ := joinK_some hm
 refine WP.seq_join (fun g' S' => ∃ (l17 : (List Cell)) (ao20 : _) (cap20 : _) (xs17 : _) (l18 : (List Cell)) (ao21 : _) (cap21 : _) (xs18 : _), RL H encCell l17 xs17 ∧ RL H encCell l18 xs18 ∧ Sub [(3, (.slice (some ⟨b2, 0, none⟩) 2 2)), (1000000007, (.bool false))] g' ∧ (∀ w', S' w' → St w H [rowE 80 encCell l18 ao21 cap21 xs18, rowE 80 encCell l17 ao20 cap20 xs17, .blk b2 78 [(.slice ao20 l17.length cap20), (.slice ao21 l18.length cap21)]] H w') ∧ k1 l17 l18 = some r) ?_ ?_
 ·
  refine WP.seq (WP.region (V rfl (ov_fieldAddr underlying24 rfl rfl rfl sizeOf22 rfl rfl) (Vl 2 isAgg22 rfl (V rfl (ov_len_slice underlying22 rfl rfl) (Vm rfl (WL.nil (tn (WP.block ?_))))))))
  have rl2 := RL.nil (α := Cell) H encCell
  refine WP.weaken (fun _ s => s.nilrow 80 (encCell).size) ?_
  have rl3 := RL.nil (α := Cell) H encCell
  refine WP.weaken (fun _ s => s.nilrow 80 (encCell).size) ?_
  refine WP.loop (fun m1 g' S' => ∃ (i1 : Int) (l1 : (List Bool)) (ao3 : _) (cap3 : _) (xs2 : _) (l2 : (List Cell)) (ao4 : _) (cap4 : _) (xs3 : _) (l3 : (List Cell)) (ao5 : _) (cap5 : _) (xs4 : _), RL H encBool l1 xs2 ∧ RL H encCell l2 xs3 ∧ RL H encCell l3 xs4 ∧ Sub [(1, (pB b1 0)), (3, (.slice (some ⟨b2, 0, none⟩) 2 2)), (4, (.slice ao3 l1.length cap3)), (20, (.slice ao1 p_s.steps.length cap1)), (21, (.int .i64 (p_s.steps.length : Int))), (22, (.int .i64 i1)), (1000000007, (.bool false))] g' ∧ (∀ w', S' w' → St w H [rowE 80 encCell l3 ao5 cap5 xs4, rowE 80 encCell l2 ao4 cap4 xs3, rowE 4 encBool l1 ao3 cap3 xs2, .blk b2 78 [(.slice ao4 l2.length cap4), (.slice ao5 l3.length cap5)], .blk b1 24 [(.int .i64 p_s.actuators), (.slice ao1 p_s.steps.length cap1)]] H w') ∧ diagram_cells2_loop1 p_s k1 m1 i1 l1 l2 l3 = some r) ((Int.toNat ((p_s.steps.length : Int) - 0) + 1)) ⟨0, (List.replicate (Int.toNat p_s.actuators) false), (some ⟨b3, 0, none⟩), (Int.toNat p_s.actuators), xs1, ([] : List Cell), none, 0, [], ([] : List Cell), none, 0, [], rl1, rl2, rl3, (Sub.all rfl), fun w' s => s, hm⟩ ?_ ?_
  ·
   rintro g' S' ⟨_, _, _, _, _, _, _, _, _, _, _, _, _, _, _, _, _, _, hm⟩
   exact none_some hm
  rintro m1 g' S' ⟨i1, l1, ao3, cap3, xs2, l2, ao4, cap4, xs3, l3, ao5, cap5, xs4, rl4, rl5, rl6, hsub1, hS1, hm⟩
  refine WP.sub hsub1 (WP.weaken hS1 ?_)
  rw [diagram_cells2_loop1] at hm
  refine WP.seq (WP.region (V rfl (ov_lss rfl rfl rfl) (WL.nil (tn (WP.seq ?_)))))
  refine WP.cond rfl (fun hc3 => ?_) (fun hc3 => ?_)
  ·
   replace hm := ite_t hc3 hm
   refine WP.skip (tn ?_)
   obtain ⟨k2, hk2, hm⟩ := joinK_some hm
   refine WP.seq_join (fun g' S' => ∃ (l14 : (List Bool)) (ao17 : _) (cap17 : _) (xs14 : _) (l15 : (List Cell)) (ao18 : _) (cap18 : _) (xs15 : _) (l16 : (List Cell)) (ao19 : _) (cap19 : _) (xs16 : _), RL H encBool l14 xs14 ∧ RL H encCell l15 xs15 ∧ RL H encCell l16 xs16 ∧ Sub [(1, (pB b1 0)), (3, (.slice (some ⟨b2, 0, none⟩) 2 2)), (4, (.slice ao17 l14.length cap17)), (20, (.slice ao1 p_s.steps.length cap1)), (21, (.int .i64 (p_s.steps.length : Int))), (22, (.int .i64 i1)), (1000000007, (.bool false))] g' ∧ (∀ w', S' w' → St w H [rowE 80 encCell l16 ao19 cap19 xs16, rowE 80 encCell l15 ao18 cap18 xs15, rowE 4 encBool l14 ao17 cap17 xs14, .blk b2 78 [(.slice ao18 l15.length cap18), (.slice ao19 l16.length cap19)], .blk b1 24 [(.int .i64 p_s.actuators), (.slice ao1 p_s.steps.length cap1)]] H w') ∧ k2 l14 l15 l16 = some r) ?_ ?_
   ·
    refine WP.block (WP.seq (WP.region ?_))
    obtain ⟨x1, e2, hm⟩ := bind_some hm
    obtain ⟨h4, h5, h6, cs1, h7, h8⟩ := h1.get e2 (by decide)
    obtain ⟨ao6, cap6, rfl, h3, hc4⟩ := h7
    refine V rfl (ov_indexAddr underlying22 sizeOf45 rfl rfl rfl h4 h5 h6) (V rfl (ov_load_elems (vs := [(.slice ao6 x1.strokes.length cap6), (.int .i64 x1.wait)]) isAgg45 sizeOf45 rfl rfl rfl h8 h6) ?_)
    refine ws rfl (os_alloc (cs := [(.slice none 0 0), (.int .i64 0)]) zeroValue45 rfl rfl (fun b4 => ?_))
    refine ws0 rfl (os_store (i := 0) (vs := [(.slice ao6 x1.strokes.length cap6), (.int .i64 x1.wait)]) (cs' := [(.slice ao6 x1.strokes.length cap6), (.int .i64 x1.wait)]) sizeOf45 rfl rfl rfl rfl rfl rfl rfl rfl rfl ?_)
    refine WL.nil (tn (WP.seq (WP.region (V rfl (ov_fieldAddr underlying24 rfl rfl rfl sizeOf3 rfl rfl) (Vl 5 isAgg3 rfl ?_)))))
    obtain ⟨u2, e3, hm⟩ := bind_some hm
    replace e3 := guardO_some e3
    refine ws rfl (os_makeSlice (En := encCell) (z := (.agg #[(.int .u8 0), (.int .u8 0)])) (y0 := (Cell.mk 0 0)) (bytes := 2) underlying78 (by kernel_rfl) rfl (by decide) rfl rfl rfl e3 (fun b5 xs5 rl7 => ?_))
    refine Va rfl (WL.nil (tn ?_))
    obtain ⟨k3, hk3, hm⟩ := joinK_some hm
    refine WP.seq_join (fun g' S' => ∃ (l5 : (List Cell)) (ao8 : _) (cap8 : _) (xs7 : _), RL H encCell l5 xs7 ∧ Sub [(1, (pB b1 0)), (3, (.slice (some ⟨b2, 0, none⟩) 2 2)), (4, (.slice ao3 l1.length cap3)), (6, (pB b4 0)), (7, (.slice ao8 l5.length cap8)), (20, (.slice ao1 p_s.steps.length cap1)), (21, (.int .i64 (p_s.steps.length : Int))), (22, (.int .i64 i1)), (1000000007, (.bool false))] g' ∧ (∀ w', S' w' → St w H [rowE 80 encCell l5 ao8 cap8 xs7, .blk b4 45 [(.slice ao6 x1.strokes.length cap6), (.int .i64 x1.wait)], rowE 80 encCell l3 ao5 cap5 xs4, rowE 80 encCell l2 ao4 cap4 xs3, rowE 4 encBool l1 ao3 cap3 xs2, .blk b2 78 [(.slice ao4 l2.length cap4), (.slice ao5 l3.length cap5)], .blk b1 24 [(.int .i64 p_s.actuators), (.slice ao1 p_s.steps.length cap1)]] H w') ∧ k3 l5 = some r) ?_ ?_
    ·
     refine WP.seq (WP.region (Vm rfl (V rfl (ov_len_slice underlying49 rfl rfl) (Vm rfl (WL.nil (tn (WP.block ?_)))))))
     refine WP.loop (fun m2 g' S' => ∃ (i2 : Int) (l4 : (List Cell)) (ao7 : _) (cap7 : _) (xs6 : _), RL H encCell l4 xs6 ∧ Sub [(1, (pB b1 0)), (3, (.slice (some ⟨b2, 0, none⟩) 2 2)), (4, (.slice ao3 l1.length cap3)), (6, (pB b4 0)), (7, (.slice ao7 l4.length cap7)), (20, (.slice ao1 p_s.steps.length cap1)), (21, (.int .i64 (p_s.steps.length : Int))), (22, (.int .i64 i1)), (29, (.slice ao3 l1.length cap3)), (30, (.int .i64 (l1.length : Int))), (31, (.int .i64 i2)), (1000000007, (.bool false))] g' ∧ (∀ w', S' w' → St w H [rowE 80 encCell l4 ao7 cap7 xs6, .blk b4 45 [(.slice ao6 x1.strokes.length cap6), (.int .i64 x1.wait)], rowE 80 encCell l3 ao5 cap5 xs4, rowE 80 encCell l2 ao4 cap4 xs3, rowE 4 encBool l1 ao3 cap3 xs2, .blk b2 78 [(.slice ao4 l2.length cap4), (.slice ao5 l3.length cap5)], .blk b1 24 [(.int .i64 p_s.actuators), (.slice ao1 p_s.steps.length cap1)]] H w') ∧ diagram_cells1_loop2 l1 k3 m2 i2 l4 = some r) ((Int.toNat ((l1.length : Int) - 0) + 1)) ⟨0, (List.replicate (Int.toNat p_s.actuators) (Cell.mk 0 0)), (some ⟨b5, 0, none⟩), (Int.toNat p_s.actuators), xs5, rl7, (Sub.all rfl), fun w' s => s, hm⟩ ?_ ?_
     ·
      rintro g' S' ⟨_, _, _, _, _, _, _, _, hm⟩
      exact none_some hm
     rintro m2 g' S' ⟨i2, l4, ao7, cap7, xs6, rl8, hsub2, hS2, hm⟩
     refine WP.sub hsub2 (WP.weaken hS2 ?_)
     rw [diagram_cells1_loop2] at hm
     refine WP.seq (WP.region (V rfl (ov_lss rfl rfl rfl) (WL.nil (tn (WP.seq ?_)))))
     refine WP.cond rfl (fun hc5 => ?_) (fun hc5 => ?_)
     ·
      replace hm := ite_t hc5 hm
      refine WP.skip (tn (WP.seq (WP.block (WP.seq (WP.region (Vm rfl ?_))))))
      obtain ⟨x2, e4, hm⟩ := bind_some hm
      obtain ⟨h9, h10, h11, cs2, h12, h13⟩ := RL.get rl4 e4
      obtain rfl : cs2 = [(.bool x2)] := h12
      refine V rfl (ov_indexAddr_own (i := 4) underlying49 sizeOf4 rfl rfl rfl rfl h9 h10) (V rfl (ov_load_own (i := 4) isAgg4 rfl rfl rfl (own_pos h9 h10) (elem_cell h13 (off := 0) rfl)) (Va rfl (Va rfl (WL.nil (tn ?_)))))
      refine WP.region_any (S₀ := St w H [.blk b4 45 [(.slice ao6 x1.strokes.length cap6), (.int .i64 x1.wait)], rowE 80 encCell l3 ao5 cap5 xs4, rowE 80 encCell l2 ao4 cap4 xs3, rowE 4 encBool l1 ao3 cap3 xs2, .blk b2 78 [(.slice ao4 l2.length cap4), (.slice ao5 l3.length cap5)], .blk b1 24 [(.int .i64 p_s.actuators), (.slice ao1 p_s.steps.length cap1)]] H) 13 rfl (by kernel_rfl) (fun w' s => (s.sl [1, 2, 3, 4, 5, 6])) (fun _ s => s.drew) ?_
      refine TQ' 0 rfl (ov_move rfl rfl) (TQ' 1 rfl (ov_move rfl rfl) (TQ' 2 rfl (ov_move rfl rfl) (TQ' 6 rfl (ov_move rfl rfl) ?_)))
      refine AL.any (rs := [3]) (by kernel_rfl) (by decide) ?_
      refine ALs.cons (i := 3) rfl (Runs.free rfl) rfl rfl ?_ ?_
      ·
       obtain ⟨r1, e5, hm⟩ := bind_some hm
       refine OQ.step (oq_con (r := (.int .i64 r1)) call87 rfl rfl (fun w' s => ⟨_, (diagram_index_con x2  w' H s.hold hG r1 e5)⟩)) ?_
       refine ⟨fun w' s => (s.sl [1, 2, 3, 4, 5, 6]), ?_⟩
       obtain ⟨x3, e6, hm⟩ := bind_some hm
       obtain ⟨h14, h15, h16, cs3, h17, h18⟩ := hG.1.1.1.get e6 (by decide)
       obtain rfl : cs3 = [(.int .u8 x3)] := h17
       refine TQ' 4 rfl (ov_indexAddr_globL rfl underlying84 sizeOf5 rfl rfl rfl h14 h15) (TQ' 5 rfl (ov_load_elem (v := (.int .u8 x3)) isAgg5 rfl rfl h18) ?_)
       refine AL.any (rs := [7]) (by kernel_rfl) (by decide) ?_
       refine ALs.cons (i := 7) rfl (Runs.free rfl) rfl rfl ?_ ?_
       ·
        obtain ⟨r2, e7, hm⟩ := bind_some hm
        refine OQ.step (oq_con (r := (.int .i64 r2)) call87 rfl rfl (fun w' s => ⟨_, (diagram_index_con x2  w' H s.hold hG r2 e7)⟩)) ?_
        refine ⟨fun w' s => (s.sl [1, 2, 3, 4, 5, 6]), ?_⟩
        obtain ⟨x4, e8, hm⟩ := bind_some hm
        obtain ⟨h19, h20, h21, cs4, h22, h23⟩ := hG.1.1.1.get e8 (by decide)
        obtain rfl : cs4 = [(.int .u8 x4)] := h22
        refine TQ' 8 rfl (ov_indexAddr_globL rfl underlying84 sizeOf5 rfl rfl rfl h19 h20) (TQ' 9 rfl (ov_load_elem (v := (.int .u8 x4)) isAgg5 rfl rfl h23) (TQ' 10 rfl (ov_build (r := (.agg #[(.int .u8 x3), (.int .u8 x4)])) rfl rfl (fun _ => by kernel_rfl)) ?_))
        refine AL.any (rs := [11]) (by kernel_rfl) (by decide) ?_
        refine ALs.cons (i := 11) rfl (Runs.free rfl) rfl rfl ?_ ?_
        ·
         obtain ⟨x5, e9, hm⟩ := bind_some hm
         obtain ⟨h24, h25, h26, cs5, h27, h28⟩ := RL.get rl8 e9
         obtain rfl : cs5 = [(.int .u8 x5.first), (.int .u8 x5.second)] := h27
         refine OQ.step (OV.quiet (ov_indexAddr_own (i := 0) underlying78 sizeOf80 rfl rfl rfl rfl h24 h25)) ?_
         refine ⟨fun w' s => (s.sl [1, 2, 3, 4, 5, 6]), ?_⟩
         refine AL.any (rs := [12]) (by kernel_rfl) (by decide) ?_
         refine ALs.cons0 (i := 12) rfl (Runs.free rfl) rfl ?_ ?_
         ·
          have rl9 := RL.set rl8 (y := (Cell.mk x3 x4)) (off := 0) (vs := [(.int .u8 x3), (.int .u8 x4)]) e9 h28 rfl (Nat.le_of_ble_eq_true rfl)
          have e10 := at?_set (y := (Cell.mk x3 x4)) e9
          refine os_store_own (i := 0) (vs := [(.int .u8 x3), (.int .u8 x4)]) sizeOf80 rfl rfl rfl rfl (own_pos h24 h25) rfl rfl (elem_le (off := 0) h26 (Nat.le_of_ble_eq_true rfl)) rfl ?_
          rw [show l4.length = (List.set l4 (Int.toNat i2) (Cell.mk x3 x4)).length from List.length_set.symm]
          obtain ⟨h29, h30, h31, cs6, h32, h33⟩ := rl9.get e10
          obtain rfl : cs6 = [(.int .u8 x3), (.int .u8 x4)] := h32
          refine ⟨fun w' s => (s.sl [1, 2, 3, 4, 5, 6]), ?_⟩
          refine AL.done (by kernel_rfl) ?_
          refine bn (tn (WP.region (V rfl (ov_add rfl rfl rfl) (Vm rfl (WL.nil (tn ?_))))))
          exact ⟨(IntKind.wrap .i64 (i2 + 1)), (List.set l4 (Int.toNat i2) (Cell.mk x3 x4)), ao7, cap7, (spl xs6 (Int.toNat i2 * encCell.size + 0) [(.int .u8 x3), (.int .u8 x4)]), rl9, (Sub.all rfl), fun w' s => s, hm⟩
         exact ALs.nil
        exact ALs.nil
       exact ALs.nil
      exact ALs.nil
     replace hm := ite_f hc5 hm
     refine WP.exit (then_exit (then_exit (block_here (tn ?_))))
     exact ⟨l4, ao7, cap7, xs6, rl8, (Sub.all rfl), fun w' s => s, hm⟩
    rintro g' S' ⟨l5, ao8, cap8, xs7, rl10, hsub3, hS3, hm⟩
    refine WP.sub hsub3 (WP.weaken hS3 ?_)
    replace hm := (congrFun hk3 l5).symm.trans hm
    obtain ⟨k4, hk4, hm⟩ := joinK_some hm
    refine WP.seq_join (fun g' S' => ∃ (l8 : (List Bool)) (ao11 : _) (cap11 : _) (xs10 : _) (l9 : (List Cell)) (ao12 : _) (cap12 : _) (xs11 : _), RL H encBool l8 xs10 ∧ RL H encCell l9 xs11 ∧ Sub [(1, (pB b1 0)), (3, (.slice (some ⟨b2, 0, none⟩) 2 2)), (4, (.slice ao11 l8.length cap11)), (7, (.slice ao12 l9.length cap12)), (20, (.slice ao1 p_s.steps.length cap1)), (21, (.int .i64 (p_s.steps.length : Int))), (22, (.int .i64 i1)), (1000000007, (.bool false))] g' ∧ (∀ w', S' w' → St w H [rowE 80 encCell l9 ao12 cap12 xs11, rowE 80 encCell l3 ao5 cap5 xs4, rowE 80 encCell l2 ao4 cap4 xs3, rowE 4 encBool l8 ao11 cap11 xs10, .blk b2 78 [(.slice ao4 l2.length cap4), (.slice ao5 l3.length cap5)], .blk b1 24 [(.int .i64 p_s.actuators), (.slice ao1 p_s.steps.length cap1)]] H w') ∧ k4 l8 l9 = some r) ?_ ?_
    ·
     refine WP.seq (WP.region (V rfl (ov_fieldAddr underlying45 rfl rfl rfl sizeOf43 rfl rfl) (Vl 1 isAgg43 rfl (V rfl (ov_len_slice underlying43 rfl rfl) (Vm rfl (WL.nil (tn (WP.block ?_))))))))
     refine WP.loop (fun m3 g' S' => ∃ (i3 : Int) (l6 : (List Bool)) (ao9 : _) (cap9 : _) (xs8 : _) (l7 : (List Cell)) (ao10 : _) (cap10 : _) (xs9 : _), RL H encBool l6 xs8 ∧ RL H encCell l7 xs9 ∧ Sub [(1, (pB b1 0)), (3, (.slice (some ⟨b2, 0, none⟩) 2 2)), (4, (.slice ao9 l6.length cap9)), (7, (.slice ao10 l7.length cap10)), (20, (.slice ao1 p_s.steps.length cap1)), (21, (.int .i64 (p_s.steps.length : Int))), (22, (.int .i64 i1)), (50, (.slice ao6 x1.strokes.length cap6)), (51, (.int .i64 (x1.strokes.length : Int))), (52, (.int .i64 i3)), (1000000007, (.bool false))] g' ∧ (∀ w', S' w' → St w H [rowE 80 encCell l7 ao10 cap10 xs9, rowE 80 encCell l3 ao5 cap5 xs4, rowE 80 encCell l2 ao4 cap4 xs3, rowE 4 encBool l6 ao9 cap9 xs8, .blk b2 78 [(.slice ao4 l2.length cap4), (.slice ao5 l3.length cap5)], .blk b1 24 [(.int .i64 p_s.actuators), (.slice ao1 p_s.steps.length cap1)]] H w') ∧ diagram_cells1_loop3 x1 k4 m3 i3 l6 l7 = some r) ((Int.toNat ((x1.strokes.length : Int) - 0) + 1)) ⟨0, l1, ao3, cap3, xs2, l5, ao8, cap8, xs7, rl4, rl10, (Sub.all rfl), fun w' s => (s.sl [0, 2, 3, 4, 5, 6]), hm⟩ ?_ ?_
     ·
      rintro g' S' ⟨_, _, _, _, _, _, _, _, _, _, _, _, _, hm⟩
      exact none_some hm
     rintro m3 g' S' ⟨i3, l6, ao9, cap9, xs8, l7, ao10, cap10, xs9, rl11, rl12, hsub4, hS4, hm⟩
     refine WP.sub hsub4 (WP.weaken hS4 ?_)
     rw [diagram_cells1_loop3] at hm
     refine WP.seq (WP.region (V rfl (ov_lss rfl rfl rfl) (WL.nil (tn (WP.seq ?_)))))
     refine WP.cond rfl (fun hc6 => ?_) (fun hc6 => ?_)
     ·
      replace hm := ite_t hc6 hm
      refine WP.skip (tn (WP.seq (WP.block (WP.seq (WP.region ?_)))))
      obtain ⟨x6, e11, hm⟩ := bind_some hm
      obtain ⟨h34, h35, h36, cs7, h37, h38⟩ := h3.get e11 (by decide)
      obtain rfl : cs7 = [(.int .i64 x6.actuator), (.bool x6.out)] := h37
      refine V rfl (ov_indexAddr underlying43 sizeOf48 rfl rfl rfl h34 h35 h36) (V rfl (ov_load_elems (vs := [(.int .i64 x6.actuator), (.bool x6.out)]) isAgg48 sizeOf48 rfl rfl rfl h38 h36) ?_)
      refine ws rfl (os_alloc (cs := [(.int .i64 0), (.bool false)]) zeroValue48 rfl rfl (fun b6 => ?_))
      refine ws0 rfl (os_store (i := 0) (vs := [(.int .i64 x6.actuator), (.bool x6.out)]) (cs' := [(.int .i64 x6.actuator), (.bool x6.out)]) sizeOf48 rfl rfl rfl rfl rfl rfl rfl rfl rfl ?_)
      refine WL.nil (tn (WP.seq (WP.region (Vm rfl (V rfl (ov_fieldAddr underlying48 rfl rfl rfl sizeOf3 rfl rfl) (Vl 0 isAgg3 rfl (V rfl (ov_fieldAddr underlying48 rfl rfl rfl sizeOf4 rfl rfl) (Vl 0 isAgg4 rfl ?_))))))))
      obtain ⟨x7, e12, hm⟩ := bind_some hm
      obtain ⟨h39, h40, h41, cs8, h42, h43⟩ := RL.get rl11 e12
      obtain rfl : cs8 = [(.bool x7)] := h42
      refine V rfl (ov_indexAddr_own (i := 4) underlying49 sizeOf4 rfl rfl rfl rfl h39 h40) ?_
      have rl13 := RL.set rl11 (y := x6.out) (off := 0) (vs := [(.bool x6.out)]) e12 h43 rfl (Nat.le_of_ble_eq_true rfl)
      have e13 := at?_set (y := x6.out) e12
      refine ws0 rfl (os_store_own (i := 4) (vs := [(.bool x6.out)]) sizeOf4 rfl rfl rfl rfl (own_pos h39 h40) rfl rfl (elem_le (off := 0) h41 (Nat.le_of_ble_eq_true rfl)) rfl ?_)
      rw [show l6.length = (List.set l6 (Int.toNat x6.actuator) x6.out).length from List.length_set.symm]
      obtain ⟨h44, h45, h46, cs9, h47, h48⟩ := rl13.get e13
      obtain rfl : cs9 = [(.bool x6.out)] := h47
      refine WL.nil (tn ?_)
      refine WP.region_any (S₀ := St w H [.blk b6 48 [(.int .i64 x6.actuator), (.bool x6.out)], rowE 80 encCell l3 ao5 cap5 xs4, rowE 80 encCell l2 ao4 cap4 xs3, .row 4 (encBool).size (List.set l6 (Int.toNat x6.actuator) x6.out).length (.slice ao9 (List.set l6 (Int.toNat x6.actuator) x6.out).length cap9) (spl xs8 (Int.toNat x6.actuator * encBool.size + 0) [(.bool x6.out)]), .blk b2 78 [(.slice ao4 l2.length cap4), (.slice ao5 l3.length cap5)], .blk b1 24 [(.int .i64 p_s.actuators), (.slice ao1 p_s.steps.length cap1)]] H) 16 rfl (by kernel_rfl) (fun w' s => (s.sl [0, 2, 3, 4, 5, 6])) (fun _ s => s.drew) ?_
      refine TQ' 0 rfl (ov_move rfl rfl) (TQ' 1 rfl (ov_fieldAddr underlying48 rfl rfl rfl sizeOf3 rfl rfl) (TQ' 2 rfl (ov_load_box (i := 0) isAgg3 rfl rfl rfl rfl) (TQ' 3 rfl (ov_fieldAddr underlying48 rfl rfl rfl sizeOf4 rfl rfl) (TQ' 4 rfl (ov_load_box (i := 0) isAgg4 rfl rfl rfl rfl) (TQ' 8 rfl (ov_fieldAddr underlying48 rfl rfl rfl sizeOf4 rfl rfl) (TQ' 9 rfl (ov_load_box (i := 0) isAgg4 rfl rfl rfl rfl) ?_))))))
      refine AL.any (rs := [5]) (by kernel_rfl) (by decide) ?_
      refine ALs.cons (i := 5) rfl (Runs.free rfl) rfl rfl ?_ ?_
      ·
       obtain ⟨r3, e14, hm⟩ := bind_some hm
       refine OQ.step (oq_con (r := (.int .i64 r3)) call87 rfl rfl (fun w' s => ⟨_, (diagram_index_con x6.out  w' H s.hold hG r3 e14)⟩)) ?_
       refine ⟨fun w' s => (s.sl [0, 2, 3, 4, 5, 6]), ?_⟩
       obtain ⟨x8, e15, hm⟩ := bind_some hm
       obtain ⟨h49, h50, h51, cs10, h52, h53⟩ := hG.1.1.2.get e15 (by decide)
       obtain rfl : cs10 = [(.int .u8 x8)] := h52
       refine TQ' 6 rfl (ov_indexAddr_globL rfl underlying84 sizeOf5 rfl rfl rfl h49 h50) (TQ' 7 rfl (ov_load_elem (v := (.int .u8 x8)) isAgg5 rfl rfl h53) ?_)
       refine AL.any (rs := [10]) (by kernel_rfl) (by decide) ?_
       refine ALs.cons (i := 10) rfl (Runs.free rfl) rfl rfl ?_ ?_
       ·
        obtain ⟨r4, e16, hm⟩ := bind_some hm
        refine OQ.step (oq_con (r := (.int .i64 r4)) call87 rfl rfl (fun w' s => ⟨_, (diagram_index_con x6.out  w' H s.hold hG r4 e16)⟩)) ?_
        refine ⟨fun w' s => (s.sl [0, 2, 3, 4, 5, 6]), ?_⟩
        obtain ⟨x9, e17, hm⟩ := bind_some hm
        obtain ⟨h54, h55, h56, cs11, h57, h58⟩ := hG.1.1.1.get e17 (by decide)
        obtain rfl : cs11 = [(.int .u8 x9)] := h57
        refine TQ' 11 rfl (ov_indexAddr_globL rfl underlying84 sizeOf5 rfl rfl rfl h54 h55) (TQ' 12 rfl (ov_load_elem (v := (.int .u8 x9)) isAgg5 rfl rfl h58) (TQ' 13 rfl (ov_build (r := (.agg #[(.int .u8 x8), (.int .u8 x9)])) rfl rfl (fun _ => by kernel_rfl)) ?_))
        refine AL.any (rs := [14]) (by kernel_rfl) (by decide) ?_
        refine ALs.cons (i := 14) rfl (Runs.free rfl) rfl rfl ?_ ?_
        ·
         obtain ⟨x10, e18, hm⟩ := bind_some hm
         obtain ⟨h59, h60, h61, cs12, h62, h63⟩ := RL.get rl12 e18
         obtain rfl : cs12 = [(.int .u8 x10.first), (.int .u8 x10.second)] := h62
         refine OQ.step (OV.quiet (ov_indexAddr_own (i := 1) underlying78 sizeOf80 rfl rfl rfl rfl h59 h60)) ?_
         refine ⟨fun w' s => (s.sl [0, 2, 3, 4, 5, 6]), ?_⟩
         refine AL.any (rs := [15]) (by kernel_rfl) (by decide) ?_
         refine ALs.cons0 (i := 15) rfl (Runs.free rfl) rfl ?_ ?_
         ·
          have rl14 := RL.set rl12 (y := (Cell.mk x8 x9)) (off := 0) (vs := [(.int .u8 x8), (.int .u8 x9)]) e18 h63 rfl (Nat.le_of_ble_eq_true rfl)
          have e19 := at?_set (y := (Cell.mk x8 x9)) e18
          refine os_store_own (i := 1) (vs := [(.int .u8 x8), (.int .u8 x9)]) sizeOf80 rfl rfl rfl rfl (own_pos h59 h60) rfl rfl (elem_le (off := 0) h61 (Nat.le_of_ble_eq_true rfl)) rfl ?_
          rw [show l7.length = (List.set l7 (Int.toNat x6.actuator) (Cell.mk x8 x9)).length from List.length_set.symm]
          obtain ⟨h64, h65, h66, cs13, h67, h68⟩ := rl14.get e19
          obtain rfl : cs13 = [(.int .u8 x8), (.int .u8 x9)] := h67
          refine ⟨fun w' s => (s.sl [0, 2, 3, 4, 5, 6]), ?_⟩
          refine AL.done (by kernel_rfl) ?_
          refine bn (tn (WP.region (V rfl (ov_add rfl rfl rfl) (Vm rfl (WL.nil (tn ?_))))))
          exact ⟨(IntKind.wrap .i64 (i3 + 1)), (List.set l6 (Int.toNat x6.actuator) x6.out), ao9, cap9, (spl xs8 (Int.toNat x6.actuator * encBool.size + 0) [(.bool x6.out)]), (List.set l7 (Int.toNat x6.actuator) (Cell.mk x8 x9)), ao10, cap10, (spl xs9 (Int.toNat x6.actuator * encCell.size + 0) [(.int .u8 x8), (.int .u8 x9)]), rl13, rl14, (Sub.all rfl), fun w' s => (s.sl [1, 2, 3, 4, 5, 6]), hm⟩
         exact ALs.nil
        exact ALs.nil
       exact ALs.nil
      exact ALs.nil
     replace hm := ite_f hc6 hm
     refine WP.exit (then_exit (then_exit (block_here (tn ?_))))
     exact ⟨l6, ao9, cap9, xs8, l7, ao10, cap10, xs9, rl11, rl12, (Sub.all rfl), fun w' s => s, hm⟩
    rintro g' S' ⟨l8, ao11, cap11, xs10, l9, ao12, cap12, xs11, rl15, rl16, hsub5, hS5, hm⟩
    refine WP.sub hsub5 (WP.weaken hS5 ?_)
    replace hm := (congrFun (congrFun hk4 l8) l9).symm.trans hm
    refine WP.seq (WP.region (Vm rfl (V rfl (ov_len_slice underlying76 rfl rfl) (Vm rfl (WL.nil (tn (WP.block ?_)))))))
    refine WP.loop (fun m4 g' S' => ∃ (i4 : Int) (l10 : (List Cell)) (ao13 : _) (cap13 : _) (xs12 : _) (l11 : (List Cell)) (ao14 : _) (cap14 : _) (xs13 : _), RL H encCell l10 xs12 ∧ RL H encCell l11 xs13 ∧ Sub [(1, (pB b1 0)), (3, (.slice (some ⟨b2, 0, none⟩) 2 2)), (4, (.slice ao11 l8.length cap11)), (7, (.slice ao12 l9.length cap12)), (20, (.slice ao1 p_s.steps.length cap1)), (21, (.int .i64 (p_s.steps.length : Int))), (22, (.int .i64 i1)), (79, (.int .i64 2)), (80, (.int .i64 i4)), (1000000007, (.bool false))] g' ∧ (∀ w', S' w' → St w H [rowE 80 encCell l9 ao12 cap12 xs11, rowE 80 encCell l11 ao14 cap14 xs13, rowE 80 encCell l10 ao13 cap13 xs12, rowE 4 encBool l8 ao11 cap11 xs10, .blk b2 78 [(.slice ao13 l10.length cap13), (.slice ao14 l11.length cap14)], .blk b1 24 [(.int .i64 p_s.actuators), (.slice ao1 p_s.steps.length cap1)]] H w') ∧ diagram_cells2_loop4 k2 l9 l8 m4 i4 l10 l11 = some r) ((Int.toNat (2 - 0) + 1)) ⟨0, l2, ao4, cap4, xs3, l3, ao5, cap5, xs4, rl5, rl6, (Sub.all rfl), fun w' s => s, hm⟩ ?_ ?_
    ·
     rintro g' S' ⟨_, _, _, _, _, _, _, _, _, _, _, _, _, hm⟩
     exact none_some hm
    rintro m4 g' S' ⟨i4, l10, ao13, cap13, xs12, l11, ao14, cap14, xs13, rl17, rl18, hsub6, hS6, hm⟩
    refine WP.sub hsub6 (WP.weaken hS6 ?_)
    rw [diagram_cells2_loop4] at hm
    refine WP.seq (WP.region (V rfl (ov_lss rfl rfl rfl) (WL.nil (tn (WP.seq ?_)))))
    refine WP.cond rfl (fun hc7 => ?_) (fun hc7 => ?_)
    ·
     replace hm := ite_t hc7 hm
     refine WP.skip (tn (WP.seq (WP.block (WP.seq (WP.region (Vm rfl (Va rfl (WL.nil (tn ?_)))))))))
     refine WP.region_any (S₀ := St w H [rowE 80 encCell l9 ao12 cap12 xs11, rowE 4 encBool l8 ao11 cap11 xs10, .blk b1 24 [(.int .i64 p_s.actuators), (.slice ao1 p_s.steps.length cap1)]] H) 14 rfl (by kernel_rfl) (fun w' s => (s.sl [0, 3, 5])) (fun _ s => s.drew) ?_
     refine TQ' 0 rfl (ov_move rfl rfl) (TQ' 1 rfl (ov_move rfl rfl) (TQ' 2 rfl (ov_move rfl rfl) (TQ' 3 rfl (ov_move rfl rfl) ?_)))
     rcases Bool.eq_false_or_eq_true (i4 == 0) with hc8 | hc8
     ·
      replace hm := ite_t hc8 hm
      refine TQ' 4 rfl (ov_indexAddr_bsl (j := 0) underlying76 sizeOf78 rfl rfl rfl (eq_of_beq hc8) rfl) (TQ' 6 rfl (ov_move rfl rfl) (TQ' 7 rfl (ov_move rfl rfl) ?_))
      obtain ⟨x11, e20, hm⟩ := bind_some hm
      obtain ⟨h69, h70, h71, cs14, h72, h73⟩ := RL.get rl16 e20
      obtain rfl : cs14 = [(.int .u8 x11.first), (.int .u8 x11.second)] := h72
      refine TQ' 8 rfl (ov_indexAddr_own (i := 0) underlying78 sizeOf80 rfl rfl rfl rfl h69 h70) (TQ' 9 rfl (ov_load_owns (i := 0) (vs := [(.int .u8 x11.first), (.int .u8 x11.second)]) isAgg80 sizeOf80 rfl rfl rfl (own_pos h69 h70) rfl (fun j u hu => elem_cell h73 hu)) ?_)
      refine AL.any (rs := [5, 10]) (by kernel_rfl) (by decide) ?_
      refine ALs.cons (i := 5) rfl (Runs.free rfl) rfl rfl ?_ ?_
      ·
       refine OQ.step (OV.quiet (ov_load_box (i := 4) isAgg78 rfl rfl rfl rfl)) ?_
       refine ⟨fun w' s => (s.sl [0, 3, 5]), ?_⟩
       refine AL.any (rs := [10]) (by kernel_rfl) (by decide) ?_
       refine ALs.cons (i := 10) rfl (Runs.free rfl) rfl rfl ?_ ?_
       ·
        have rl19 : RL H encCell ([x11] : List Cell) [(.int .u8 x11.first), (.int .u8 x11.second)] := RL.cons (cs := [(.int .u8 x11.first), (.int .u8 x11.second)]) (xs := []) rfl (RL.nil _ _)
        refine os_buildSlice (cs := [(.int .u8 x11.first), (.int .u8 x11.second)]) (E := 80) (sz := 2) rfl rfl (fun _ => by kernel_rfl) rfl (by decide) (fun b7 => ?_)
        refine ⟨fun w' s => (s.sl [1, 4, 6]), ?_⟩
        refine AL.any (rs := [11]) (by kernel_rfl) (by decide) ?_
        refine ALs.cons (i := 11) rfl (Runs.free rfl) rfl rfl ?_ ?_
        ·
         obtain ⟨l12, e21, hm⟩ := bind_some hm
         refine os_app (i := 3) (j := 0) (En := encCell) (xs := xs12) (ys := [(.int .u8 x11.first), (.int .u8 x11.second)]) underlying78 (by kernel_rfl : (prog.info? 80).map (fun i => (i.zero, i.size, i.bytes)) = some (some (.agg #[(.int .u8 0), (.int .u8 0)]), (encCell).size, 2)) rfl (by decide) rfl rfl rfl rfl rfl rfl rl17 rl19 e21 (fun ao15 cap15 rl20 => ?_)
         refine ⟨fun w' s => (s.sl [1, 4, 6]), ?_⟩
         refine TQ' 12 rfl (ov_indexAddr_bsl (j := 0) underlying76 sizeOf78 rfl rfl rfl (eq_of_beq hc8) rfl) ?_
         refine AL.any (rs := [13]) (by kernel_rfl) (by decide) ?_
         refine ALs.cons0 (i := 13) rfl (Runs.free rfl) rfl ?_ ?_
         ·
          refine os_store (i := 5) (vs := [(.slice ao15 (l10 ++ ([x11] : List Cell)).length cap15)]) (cs' := [(.slice ao15 (l10 ++ ([x11] : List Cell)).length cap15), (.slice ao14 l11.length cap14)]) sizeOf78 rfl rfl rfl rfl rfl rfl rfl rfl rfl ?_
          refine ⟨fun w' s => (s.sl [1, 4, 6]), ?_⟩
          refine AL.done (by kernel_rfl) ?_
          refine bn (tn (WP.region (V rfl (ov_add rfl rfl rfl) (Vm rfl (WL.nil (tn ?_))))))
          exact ⟨(IntKind.wrap .i64 (i4 + 1)), (l10 ++ ([x11] : List Cell)), ao15, cap15, (xs12 ++ [(.int .u8 x11.first), (.int .u8 x11.second)]), l11, ao14, cap14, xs13, rl20, rl18, (Sub.all rfl), fun w' s => (s.sl [1, 2, 3, 4, 5, 6]), hm⟩
         exact ALs.nil
        exact ALs.nil
       exact ALs.nil
      refine ALs.cons (i := 10) rfl (Runs.free rfl) rfl rfl ?_ ?_
      ·
       have rl19 : RL H encCell ([x11] : List Cell) [(.int .u8 x11.first), (.int .u8 x11.second)] := RL.cons (cs := [(.int .u8 x11.first), (.int .u8 x11.second)]) (xs := []) rfl (RL.nil _ _)
       refine os_buildSlice (cs := [(.int .u8 x11.first), (.int .u8 x11.second)]) (E := 80) (sz := 2) rfl rfl (fun _ => by kernel_rfl) rfl (by decide) (fun b7 => ?_)
       refine ⟨fun w' s => (s.sl [1, 4, 6]), ?_⟩
       refine AL.any (rs := [5]) (by kernel_rfl) (by decide) ?_
       refine ALs.cons (i := 5) rfl (Runs.free rfl) rfl rfl ?_ ?_
       ·
        refine OQ.step (OV.quiet (ov_load_box (i := 5) isAgg78 rfl rfl rfl rfl)) ?_
        refine ⟨fun w' s => (s.sl [1, 4, 6]), ?_⟩
        refine AL.any (rs := [11]) (by kernel_rfl) (by decide) ?_
        refine ALs.cons (i := 11) rfl (Runs.free rfl) rfl rfl ?_ ?_
        ·
         obtain ⟨l12, e21, hm⟩ := bind_some hm
         refine os_app (i := 3) (j := 0) (En := encCell) (xs := xs12) (ys := [(.int .u8 x11.first), (.int .u8 x11.second)]) underlying78 (by kernel_rfl : (prog.info? 80).map (fun i => (i.zero, i.size, i.bytes)) = some (some (.agg #[(.int .u8 0), (.int .u8 0)]), (encCell).size, 2)) rfl (by decide) rfl rfl rfl rfl rfl rfl rl17 rl19 e21 (fun ao15 cap15 rl20 => ?_)
         refine ⟨fun w' s => (s.sl [1, 4, 6]), ?_⟩
         refine TQ' 12 rfl (ov_indexAddr_bsl (j := 0) underlying76 sizeOf78 rfl rfl rfl (eq_of_beq hc8) rfl) ?_
         refine AL.any (rs := [13]) (by kernel_rfl) (by decide) ?_
         refine ALs.cons0 (i := 13) rfl (Runs.free rfl) rfl ?_ ?_
         ·
          refine os_store (i := 5) (vs := [(.slice ao15 (l10 ++ ([x11] : List Cell)).length cap15)]) (cs' := [(.slice ao15 (l10 ++ ([x11] : List Cell)).length cap15), (.slice ao14 l11.length cap14)]) sizeOf78 rfl rfl rfl rfl rfl rfl rfl rfl rfl ?_
          refine ⟨fun w' s => (s.sl [1, 4, 6]), ?_⟩
          refine AL.done (by kernel_rfl) ?_
          refine bn (tn (WP.region (V rfl (ov_add rfl rfl rfl) (Vm rfl (WL.nil (tn ?_))))))
          exact ⟨(IntKind.wrap .i64 (i4 + 1)), (l10 ++ ([x11] : List Cell)), ao15, cap15, (xs12 ++ [(.int .u8 x11.first), (.int .u8 x11.second)]), l11, ao14, cap14, xs13, rl20, rl18, (Sub.all rfl), fun w' s => (s.sl [1, 2, 3, 4, 5, 6]), hm⟩
         exact ALs.nil
        exact ALs.nil
       exact ALs.nil
      exact ALs.nil
     replace hm := ite_f hc8 hm
     rcases Bool.eq_false_or_eq_true (i4 == 1) with hc9 | hc9
     ·
      replace hm := ite_t hc9 hm
      refine TQ' 4 rfl (ov_indexAddr_bsl (j := 1) underlying76 sizeOf78 rfl rfl rfl (eq_of_beq hc9) rfl) (TQ' 6 rfl (ov_move rfl rfl) (TQ' 7 rfl (ov_move rfl rfl) ?_))
      obtain ⟨x12, e22, hm⟩ := bind_some hm
      obtain ⟨h74, h75, h76, cs15, h77, h78⟩ := RL.get rl16 e22
      obtain rfl : cs15 = [(.int .u8 x12.first), (.int .u8 x12.second)] := h77
      refine TQ' 8 rfl (ov_indexAddr_own (i := 0) underlying78 sizeOf80 rfl rfl rfl rfl h74 h75) (TQ' 9 rfl (ov_load_owns (i := 0) (vs := [(.int .u8 x12.first), (.int .u8 x12.second)]) isAgg80 sizeOf80 rfl rfl rfl (own_pos h74 h75) rfl (fun j u hu => elem_cell h78 hu)) ?_)
      refine AL.any (rs := [5, 10]) (by kernel_rfl) (by decide) ?_
      refine ALs.cons (i := 5) rfl (Runs.free rfl) rfl rfl ?_ ?_
      ·
       refine OQ.step (OV.quiet (ov_load_box (i := 4) isAgg78 rfl rfl rfl rfl)) ?_
       refine ⟨fun w' s => (s.sl [0, 3, 5]), ?_⟩
       refine AL.any (rs := [10]) (by kernel_rfl) (by decide) ?_
       refine ALs.cons (i := 10) rfl (Runs.free rfl) rfl rfl ?_ ?_
       ·
        have rl21 : RL H encCell ([x12] : List Cell) [(.int .u8 x12.first), (.int .u8 x12.second)] := RL.cons (cs := [(.int .u8 x12.first), (.int .u8 x12.second)]) (xs := []) rfl (RL.nil _ _)
        refine os_buildSlice (cs := [(.int .u8 x12.first), (.int .u8 x12.second)]) (E := 80) (sz := 2) rfl rfl (fun _ => by kernel_rfl) rfl (by decide) (fun b8 => ?_)
        refine ⟨fun w' s => (s.sl [1, 4, 6]), ?_⟩
        refine AL.any (rs := [11]) (by kernel_rfl) (by decide) ?_
        refine ALs.cons (i := 11) rfl (Runs.free rfl) rfl rfl ?_ ?_
        ·
         obtain ⟨l13, e23, hm⟩ := bind_some hm
         refine os_app (i := 2) (j := 0) (En := encCell) (xs := xs13) (ys := [(.int .u8 x12.first), (.int .u8 x12.second)]) underlying78 (by kernel_rfl : (prog.info? 80).map (fun i => (i.zero, i.size, i.bytes)) = some (some (.agg #[(.int .u8 0), (.int .u8 0)]), (encCell).size, 2)) rfl (by decide) rfl rfl rfl rfl rfl rfl rl18 rl21 e23 (fun ao16 cap16 rl22 => ?_)
         refine ⟨fun w' s => (s.sl [1, 4, 6]), ?_⟩
         refine TQ' 12 rfl (ov_indexAddr_bsl (j := 1) underlying76 sizeOf78 rfl rfl rfl (eq_of_beq hc9) rfl) ?_
         refine AL.any (rs := [13]) (by kernel_rfl) (by decide) ?_
         refine ALs.cons0 (i := 13) rfl (Runs.free rfl) rfl ?_ ?_
         ·
          refine os_store (i := 5) (vs := [(.slice ao16 (l11 ++ ([x12] : List Cell)).length cap16)]) (cs' := [(.slice ao13 l10.length cap13), (.slice ao16 (l11 ++ ([x12] : List Cell)).length cap16)]) sizeOf78 rfl rfl rfl rfl rfl rfl rfl rfl rfl ?_
          refine ⟨fun w' s => (s.sl [1, 4, 6]), ?_⟩
          refine AL.done (by kernel_rfl) ?_
          refine bn (tn (WP.region (V rfl (ov_add rfl rfl rfl) (Vm rfl (WL.nil (tn ?_))))))
          exact ⟨(IntKind.wrap .i64 (i4 + 1)), l10, ao13, cap13, xs12, (l11 ++ ([x12] : List Cell)), ao16, cap16, (xs13 ++ [(.int .u8 x12.first), (.int .u8 x12.second)]), rl17, rl22, (Sub.all rfl), fun w' s => (s.sl [1, 2, 3, 4, 5, 6]), hm⟩
         exact ALs.nil
        exact ALs.nil
       exact ALs.nil
      refine ALs.cons (i := 10) rfl (Runs.free rfl) rfl rfl ?_ ?_
      ·
       have rl21 : RL H encCell ([x12] : List Cell) [(.int .u8 x12.first), (.int .u8 x12.second)] := RL.cons (cs := [(.int .u8 x12.first), (.int .u8 x12.second)]) (xs := []) rfl (RL.nil _ _)
       refine os_buildSlice (cs := [(.int .u8 x12.first), (.int .u8 x12.second)]) (E := 80) (sz := 2) rfl rfl (fun _ => by kernel_rfl) rfl (by decide) (fun b8 => ?_)
       refine ⟨fun w' s => (s.sl [1, 4, 6]), ?_⟩
       refine AL.any (rs := [5]) (by kernel_rfl) (by decide) ?_
       refine ALs.cons (i := 5) rfl (Runs.free rfl) rfl rfl ?_ ?_
       ·
        refine OQ.step (OV.quiet (ov_load_box (i := 5) isAgg78 rfl rfl rfl rfl)) ?_
        refine ⟨fun w' s => (s.sl [1, 4, 6]), ?_⟩
        refine AL.any (rs := [11]) (by kernel_rfl) (by decide) ?_
        refine ALs.cons (i := 11) rfl (Runs.free rfl) rfl rfl ?_ ?_
        ·
         obtain ⟨l13, e23, hm⟩ := bind_some hm
         refine os_app (i := 2) (j := 0) (En := encCell) (xs := xs13) (ys := [(.int .u8 x12.first), (.int .u8 x12.second)]) underlying78 (by kernel_rfl : (prog.info? 80).map (fun i => (i.zero, i.size, i.bytes)) = some (some (.agg #[(.int .u8 0), (.int .u8 0)]), (encCell).size, 2)) rfl (by decide) rfl rfl rfl rfl rfl rfl rl18 rl21 e23 (fun ao16 cap16 rl22 => ?_)
         refine ⟨fun w' s => (s.sl [1, 4, 6]), ?_⟩
         refine TQ' 12 rfl (ov_indexAddr_bsl (j := 1) underlying76 sizeOf78 rfl rfl rfl (eq_of_beq hc9) rfl) ?_
         refine AL.any (rs := [13]) (by kernel_rfl) (by decide) ?_
         refine ALs.cons0 (i := 13) rfl (Runs.free rfl) rfl ?_ ?_
         ·
          refine os_store (i := 5) (vs := [(.slice ao16 (l11 ++ ([x12] : List Cell)).length cap16)]) (cs' := [(.slice ao13 l10.length cap13), (.slice ao16 (l11 ++ ([x12] : List Cell)).length cap16)]) sizeOf78 rfl rfl rfl rfl rfl rfl rfl rfl rfl ?_
          refine ⟨fun w' s => (s.sl [1, 4, 6]), ?_⟩
          refine AL.done (by kernel_rfl) ?_
          refine bn (tn (WP.region (V rfl (ov_add rfl rfl rfl) (Vm rfl (WL.nil (tn ?_))))))
          exact ⟨(IntKind.wrap .i64 (i4 + 1)), l10, ao13, cap13, xs12, (l11 ++ ([x12] : List Cell)), ao16, cap16, (xs13 ++ [(.int .u8 x12.first), (.int .u8 x12.second)]), rl17, rl22, (Sub.all rfl), fun w' s => (s.sl [1, 2, 3, 4, 5, 6]), hm⟩
         exact ALs.nil
        exact ALs.nil
       exact ALs.nil
      exact ALs.nil
     replace hm := ite_f hc9 hm
     exact (none_some hm).elim
    replace hm := ite_f hc7 hm
    refine WP.exit (then_exit (then_exit (block_here (bn (tn ?_)))))
    exact ⟨l8, ao11, cap11, xs10, l10, ao13, cap13, xs12, l11, ao14, cap14, xs13, rl15, rl17, rl18, (Sub.all rfl), fun w' s => (s.sl [1, 2, 3, 4, 5]), hm⟩
   rintro g' S' ⟨l14, ao17, cap17, xs14, l15, ao18, cap18, xs15, l16, ao19, cap19, xs16, rl23, rl24, rl25, hsub7, hS7, hm⟩
   refine WP.sub hsub7 (WP.weaken hS7 ?_)
   replace hm := (congrFun (congrFun (congrFun hk2 l14) l15) l16).symm.trans hm
   refine WP.region (V rfl (ov_add rfl rfl rfl) (Vm rfl (WL.nil (tn ?_))))
   exact ⟨(IntKind.wrap .i64 (i1 + 1)), l14, ao17, cap17, xs14, l15, ao18, cap18, xs15, l16, ao19, cap19, xs16, rl23, rl24, rl25, (Sub.all rfl), fun w' s => s, hm⟩
  replace hm := ite_f hc3 hm
  refine WP.exit (then_exit (then_exit (block_here (tn ?_))))
  exact ⟨l2, ao4, cap4, xs3, l3, ao5, cap5, xs4, rl5, rl6, (Sub.all rfl), fun w' s => (s.sl [0, 1, 3]), hm⟩
 rintro g' S' ⟨l17, ao20, cap20, xs17, l18, ao21, cap21, xs18, rl26, rl27, hsub8, hS8, hm⟩
 refine WP.sub hsub8 (WP.weaken hS8 ?_)
 replace hm := (congrFun (congrFun hk1 l17) l18).symm.trans hm
 refine WP.seq (WP.region (Vm rfl ?_))
 refine WL.weaken (fun _ s => s.sl [1, 0, 2]) ?_
 refine WL.held rl26 (fun H1 hc10 hle1 h79 => ?_)
 replace rl27 := rl27.mono hle1
 refine WL.held rl27 (fun H2 hc11 hle2 h80 => ?_)
 replace h79 := h79.mono hle2
 have rl28 : RL H2 (encSl encCell) ([l17, l18] : List (List Cell)) [(.slice ao20 l17.length cap20), (.slice ao21 l18.length cap21)] := RL.cons (cs := [(.slice ao20 l17.length cap20)]) (xs := [(.slice ao21 l18.length cap21)]) ⟨ao20, cap20, rfl, h79, hc10⟩ (RL.cons (cs := [(.slice ao21 l18.length cap21)]) (xs := []) ⟨ao21, cap21, rfl, h80, hc11⟩ (RL.nil _ _))
 refine WL.weaken (fun _ s => s.blk_rowN (N := 2) (sz := 1) rfl (by decide)) ?_
 refine Va rfl (WL.nil (tn (WP.ret ?_)))
 obtain rfl := Option.some.inj hm
 refine retQ_ret results43 (Res.tmp rfl Res.nil) rfl (fun w' s => ⟨s.below, ?_⟩)
 obtain ⟨h81, hc12⟩ := s.ret_row (i := 0) rfl rl28
 exact ⟨(some ⟨b2, 0, none⟩), 2, rfl, h81, hc12⟩
theorem diagram_cells3_con (p_s : Sequence) (ao1 : Option Addr) (cap1 : Nat) (w : World) (H : Heap) (hH : Le H (hp w)) (h1 : SL H encStep ao1 p_s.steps) (hc1 : p_s.steps.length ≤ cap1) (hG : Glob H) (hn : (p_s.actuators == 3) = true) (r : (List (List Cell))) (hm : diagram_cells3 p_s = some r) :
  Con prog 43 [(.agg #[(.int .i64 p_s.actuators), (.slice ao1 p_s.steps.length cap1)])] w H (fun v H' => ∃ (ao2 : Option Addr) (cap2 : Nat), v = (.slice ao2 r.length cap2) ∧ SL H' (encSl encCell) ao2 r ∧ r.length ≤ cap2) := by
 unfold diagram_cells3 at hm
 refine con_of hH func43 rfl 99 ntmps43 rfl ?_
 refine WP.seq (WP.region ?_)
 refine ws rfl (os_box (cs := [(.int .i64 p_s.actuators), (.slice ao1 p_s.steps.length cap1)]) rfl rfl rfl (fun b1 => ?_))
 refine Va rfl (WL.nil (tn (WP.seq (WP.region (V rfl (ov_fieldAddr underlying24 rfl rfl rfl sizeOf3 rfl rfl) (Vl 0 isAgg3 rfl ?_))))))
 refine ws rfl (os_makeSlice_n (N := 3) (sz := 1) (bytes := 24) (z := (.slice none 0 0)) (cs := [(.slice none 0 0), (.slice none 0 0), (.slice none 0 0)]) underlying76 (by kernel_rfl) (by kernel_rfl) rfl rfl rfl (eq_of_beq hn) (by decide) (by decide) (fun b2 => ?_))
 refine Va rfl (WL.nil (tn (WP.seq (WP.region (V rfl (ov_fieldAddr underlying24 rfl rfl rfl sizeOf3 rfl rfl) (Vl 1 isAgg3 rfl ?_))))))
 obtain ⟨u1, e1, hm⟩ := bind_some hm
 replace e1 := guardO_some e1
 refine ws rfl (os_makeSlice (En := encBool) (z := (.bool false)) (y0 := false) (bytes := 1) underlying49 (by kernel_rfl) rfl (by decide) rfl rfl rfl e1 (fun b3 xs1 rl1 => ?_))
 refine Va rfl (WL.nil (tn ?_))
 obtain ⟨k1, hk1, hm⟩ := joinK_some hm
 refine WP.seq_join (fun g' S' => ∃ (l21 : (List Cell)) (ao24 : _) (cap24 : _) (xs20 : _) (l22 : (List Cell)) (ao25 : _) (cap25 : _) (xs21 : _) (l23 : (List Cell)) (ao26 : _) (cap26 : _) (xs22 : _), RL H encCell l21 xs20 ∧ RL H encCell l22 xs21 ∧ RL H encCell l23 xs22 ∧ Sub [(3, (.slice (some ⟨b2, 0, none⟩) 3 3)), (1000000007, (.bool false))] g' ∧ (∀ w', S' w' → St w H [rowE 80 encCell l23 ao26 cap26 xs22, rowE 80 encCell l22 ao25 cap25 xs21, rowE 80 encCell l21 ao24 cap24 xs20, .blk b2 78 [(.slice ao24 l21.length cap24), (.slice ao25 l22.length cap25), (.slice ao26 l23.length cap26)]] H w') ∧ k1 l21 l22 l23 = some r) ?_ ?_
 ·
  refine WP.seq (WP.region (V rfl (ov_fieldAddr underlying24 rfl rfl rfl sizeOf22 rfl rfl) (Vl 2 isAgg22 rfl (V rfl (ov_len_slice underlying22 rfl rfl) (Vm rfl (WL.nil (tn (WP.block ?_))))))))
  have rl2 := RL.nil (α := Cell) H encCell
  refine WP.weaken (fun _ s => s.nilrow 80 (encCell).size) ?_
  have rl3 := RL.nil (α := Cell) H encCell
  refine WP.weaken (fun _ s => s.nilrow 80 (encCell).size) ?_
  have rl4 := RL.nil (α := Cell) H encCell
  refine WP.weaken (fun _ s => s.nilrow 80 (encCell).size) ?_
  refine WP.loop (fun m1 g' S' => ∃ (i1 : Int) (l1 : (List Bool)) (ao3 : _) (cap3 : _) (xs2 : _) (l2 : (List Cell)) (ao4 : _) (cap4 : _) (xs3 : _) (l3 : (List Cell)) (ao5 : _) (cap5 : _) (xs4 : _) (l4 : (List Cell)) (ao6 : _) (cap6 : _) (xs5 : _), RL H encBool l1 xs2 ∧ RL H encCell l2 xs3 ∧ RL H encCell l3 xs4 ∧ RL H encCell l4 xs5 ∧ Sub [(1, (pB b1 0)), (3, (.slice (some ⟨b2, 0, none⟩) 3 3)), (4, (.slice ao3 l1.length cap3)), (20, (.slice ao1 p_s.steps.length cap1)), (21, (.int .i64 (p_s.steps.length : Int))), (22, (.int .i64 i1)), (1000000007, (.bool false))] g' ∧ (∀ w', S' w' → St w H [rowE 80 encCell l4 ao6 cap6 xs5, rowE 80 encCell l3 ao5 cap5 xs4, rowE 80 encCell l2 ao4 cap4 xs3, rowE 4 encBool l1 ao3 cap3 xs2, .blk b2 78 [(.slice ao4 l2.length cap4), (.slice ao5 l3.length cap5), (.slice ao6 l4.length cap6)], .blk b1 24 [(.int .i64 p_s.actuators), (.slice ao1 p_s.steps.length cap1)]] H w') ∧ diagram_cells3_loop1 p_s k1 m1 i1 l1 l2 l3 l4 = some r) ((Int.toNat ((p_s.steps.length : Int) - 0) + 1)) ⟨0, (List.replicate (Int.toNat p_s.actuators) false), (some ⟨b3, 0, none⟩), (Int.toNat p_s.actuators), xs1, ([] : List Cell), none, 0, [], ([] : List Cell), none, 0, [], ([] : List Cell), none, 0, [], rl1, rl2, rl3, rl4, (Sub.all rfl), fun w' s => s, hm⟩ ?_ ?_
  ·
   rintro g' S' ⟨_, _, _, _, _, _, _, _, _, _, _, _, _, _, _, _, _, _, _, _, _, _, _, hm⟩
   exact none_some hm
  rintro m1 g' S' ⟨i1, l1, ao3, cap3, xs2, l2, ao4, cap4, xs3, l3, ao5, cap5, xs4, l4, ao6, cap6, xs5, rl5, rl6, rl7, rl8, hsub1, hS1, hm⟩
  refine WP.sub hsub1 (WP.weaken hS1 ?_)
  rw [diagram_cells3_loop1] at hm
  refine WP.seq (WP.region (V rfl (ov_lss rfl rfl rfl) (WL.nil (tn (WP.seq ?_)))))
  refine WP.cond rfl (fun hc3 => ?_) (fun hc3 => ?_)
  ·
   replace hm := ite_t hc3 hm
   refine WP.skip (tn ?_)
   obtain ⟨k2, hk2, hm⟩ := joinK_some hm
   refine WP.seq_join (fun g' S' => ∃ (l17 : (List Bool)) (ao20 : _) (cap20 : _) (xs16 : _) (l18 : (List Cell)) (ao21 : _) (cap21 : _) (xs17 : _) (l19 : (List Cell)) (ao22 : _) (cap22 : _) (xs18 : _) (l20 : (List Cell)) (ao23 : _) (cap23 : _) (xs19 : _), RL H encBool l17 xs16 ∧ RL H encCell l18 xs17 ∧ RL H encCell l19 xs18 ∧ RL H encCell l20 xs19 ∧ Sub [(1, (pB b1 0)), (3, (.slice (some ⟨b2, 0, none⟩) 3 3)), (4, (.slice ao20 l17.length cap20)), (20, (.slice ao1 p_s.steps.length cap1)), (21, (.int .i64 (p_s.steps.length : Int))), (22, (.int .i64 i1)), (1000000007, (.bool false))] g' ∧ (∀ w', S' w' → St w H [rowE 80 encCell l20 ao23 cap23 xs19, rowE 80 encCell l19 ao22 cap22 xs18, rowE 80 encCell l18 ao21 cap21 xs17, rowE 4 encBool l17 ao20 cap20 xs16, .blk b2 78 [(.slice ao21 l18.length cap21), (.slice ao22 l19.length cap22), (.slice ao23 l20.length cap23)], .blk b1 24 [(.int .i64 p_s.actuators), (.slice ao1 p_s.steps.length cap1)]] H w') ∧ k2 l17 l18 l19 l20 = some r) ?_ ?_
   ·
    refine WP.block (WP.seq (WP.region ?_))
    obtain ⟨x1, e2, hm⟩ := bind_some hm
    obtain ⟨h4, h5, h6, cs1, h7, h8⟩ := h1.get e2 (by decide)
    obtain ⟨ao7, cap7, rfl, h3, hc4⟩ := h7
    refine V rfl (ov_indexAddr underlying22 sizeOf45 rfl rfl rfl h4 h5 h6) (V rfl (ov_load_elems (vs := [(.slice ao7 x1.strokes.length cap7), (.int .i64 x1.wait)]) isAgg45 sizeOf45 rfl rfl rfl h8 h6) ?_)
    refine ws rfl (os_alloc (cs := [(.slice none 0 0), (.int .i64 0)]) zeroValue45 rfl rfl (fun b4 => ?_))
    refine ws0 rfl (os_store (i := 0) (vs := [(.slice ao7 x1.strokes.length cap7), (.int .i64 x1.wait)]) (cs' := [(.slice ao7 x1.strokes.length cap7), (.int .i64 x1.wait)]) sizeOf45 rfl rfl rfl rfl rfl rfl rfl rfl rfl ?_)
    refine WL.nil (tn (WP.seq (WP.region (V rfl (ov_fieldAddr underlying24 rfl rfl rfl sizeOf3 rfl rfl) (Vl 6 isAgg3 rfl ?_)))))
    obtain ⟨u2, e3, hm⟩ := bind_some hm
    replace e3 := guardO_some e3
    refine ws rfl (os_makeSlice (En := encCell) (z := (.agg #[(.int .u8 0), (.int .u8 0)])) (y0 := (Cell.mk 0 0)) (bytes := 2) underlying78 (by kernel_rfl) rfl (by decide) rfl rfl rfl e3 (fun b5 xs6 rl9 => ?_))
    refine Va rfl (WL.nil (tn ?_))
    obtain ⟨k3, hk3, hm⟩ := joinK_some hm
    refine WP.seq_join (fun g' S' => ∃ (l6 : (List Cell)) (ao9 : _) (cap9 : _) (xs8 : _), RL H encCell l6 xs8 ∧ Sub [(1, (pB b1 0)), (3, (.slice (some ⟨b2, 0, none⟩) 3 3)), (4, (.slice ao3 l1.length cap3)), (6, (pB b4 0)), (7, (.slice ao9 l6.length cap9)), (20, (.slice ao1 p_s.steps.length cap1)), (21, (.int .i64 (p_s.steps.length : Int))), (22, (.int .i64 i1)), (1000000007, (.bool false))] g' ∧ (∀ w', S' w' → St w H [rowE 80 encCell l6 ao9 cap9 xs8, .blk b4 45 [(.slice ao7 x1.strokes.length cap7), (.int .i64 x1.wait)], rowE 80 encCell l4 ao6 cap6 xs5, rowE 80 encCell l3 ao5 cap5 xs4, rowE 80 encCell l2 ao4 cap4 xs3, rowE 4 encBool l1 ao3 cap3 xs2, .blk b2 78 [(.slice ao4 l2.length cap4), (.slice ao5 l3.length cap5), (.slice ao6 l4.length cap6)], .blk b1 24 [(.int .i64 p_s.actuators), (.slice ao1 p_s.steps.length cap1)]] H w') ∧ k3 l6 = some r) ?_ ?_
    ·
     refine WP.seq (WP.region (Vm rfl (V rfl (ov_len_slice underlying49 rfl rfl) (Vm rfl (WL.nil (tn (WP.block ?_)))))))
     refine WP.loop (fun m2 g' S' => ∃ (i2 : Int) (l5 : (List Cell)) (ao8 : _) (cap8 : _) (xs7 : _), RL H encCell l5 xs7 ∧ Sub [(1, (pB b1 0)), (3, (.slice (some ⟨b2, 0, none⟩) 3 3)), (4, (.slice ao3 l1.length cap3)), (6, (pB b4 0)), (7, (.slice ao8 l5.length cap8)), (20, (.slice ao1 p_s.steps.length cap1)), (21, (.int .i64 (p_s.steps.length : Int))), (22, (.int .i64 i1)), (29, (.slice ao3 l1.length cap3)), (30, (.int .i64 (l1.length : Int))), (31, (.int .i64 i2)), (1000000007, (.bool false))] g' ∧ (∀ w', S' w' → St w H [rowE 80 encCell l5 ao8 cap8 xs7, .blk b4 45 [(.slice ao7 x1.strokes.length cap7), (.int .i64 x1.wait)], rowE 80 encCell l4 ao6 cap6 xs5, rowE 80 encCell l3 ao5 cap5 xs4, rowE 80 encCell l2 ao4 cap4 xs3, rowE 4 encBool l1 ao3 cap3 xs2, .blk b2 78 [(.slice ao4 l2.length cap4), (.slice ao5 l3.length cap5), (.slice ao6 l4.length cap6)], .blk b1 24 [(.int .i64 p_s.actuators), (.slice ao1 p_s.steps.length cap1)]] H w') ∧ diagram_cells1_loop2 l1 k3 m2 i2 l5 = some r) ((Int.toNat ((l1.length : Int) - 0) + 1)) ⟨0, (List.replicate (Int.toNat p_s.actuators) (Cell.mk 0 0)), (some ⟨b5, 0, none⟩), (Int.toNat p_s.actuators), xs6, rl9, (Sub.all rfl), fun w' s => s, hm⟩ ?_ ?_
     ·
      rintro g' S' ⟨_, _, _, _, _, _, _, _, hm⟩
      exact none_some hm
     rintro m2 g' S' ⟨i2, l5, ao8, cap8, xs7, rl10, hsub2, hS2, hm⟩
     refine WP.sub hsub2 (WP.weaken hS2 ?_)
     rw [diagram_cells1_loop2] at hm
     refine WP.seq (WP.region (V rfl (ov_lss rfl rfl rfl) (WL.nil (tn (WP.seq ?_)))))
     refine WP.cond rfl (fun hc5 => ?_) (fun hc5 => ?_)
     ·
      replace hm := ite_t hc5 hm
      refine WP.skip (tn (WP.seq (WP.block (WP.seq (WP.region (Vm rfl ?_))))))
      obtain ⟨x2, e4, hm⟩ := bind_some hm
      obtain ⟨h9, h10, h11, cs2, h12, h13⟩ := RL.get rl5 e4
      obtain rfl : cs2 = [(.bool x2)] := h12
      refine V rfl (ov_indexAddr_own (i := 5) underlying49 sizeOf4 rfl rfl rfl rfl h9 h10) (V rfl (ov_load_own (i := 5) isAgg4 rfl rfl rfl (own_pos h9 h10) (elem_cell h13 (off := 0) rfl)) (Va rfl (Va rfl (WL.nil (tn ?_)))))
      refine WP.region_any (S₀ := St w H [.blk b4 45 [(.slice ao7 x1.strokes.length cap7), (.int .i64 x1.wait)], rowE 80 encCell l4 ao6 cap6 xs5, rowE 80 encCell l3 ao5 cap5 xs4, rowE 80 encCell l2 ao4 cap4 xs3, rowE 4 encBool l1 ao3 cap3 xs2, .blk b2 78 [(.slice ao4 l2.length cap4), (.slice ao5 l3.length cap5), (.slice ao6 l4.length cap6)], .blk b1 24 [(.int .i64 p_s.actuators), (.slice ao1 p_s.steps.length cap1)]] H) 13 rfl (by kernel_rfl) (fun w' s => (s.sl [1, 2, 3, 4, 5, 6, 7])) (fun _ s => s.drew) ?_
      refine TQ' 0 rfl (ov_move rfl rfl) (TQ' 1 rfl (ov_move rfl rfl) (TQ' 2 rfl (ov_move rfl rfl) (TQ' 6 rfl (ov_move rfl rfl) ?_)))
      refine AL.any (rs := [3]) (by kernel_rfl) (by decide) ?_
      refine ALs.cons (i := 3) rfl (Runs.free rfl) rfl rfl ?_ ?_
      ·
       obtain ⟨r1, e5, hm⟩ := bind_some hm
       refine OQ.step (oq_con (r := (.int .i64 r1)) call87 rfl rfl (fun w' s => ⟨_, (diagram_index_con x2  w' H s.hold hG r1 e5)⟩)) ?_
       refine ⟨fun w' s => (s.sl [1, 2, 3, 4, 5, 6, 7]), ?_⟩
       obtain ⟨x3, e6, hm⟩ := bind_some hm
       obtain ⟨h14, h15, h16, cs3, h17, h18⟩ := hG.1.1.1.get e6 (by decide)
       obtain rfl : cs3 = [(.int .u8 x3)] := h17
       refine TQ' 4 rfl (ov_indexAddr_globL rfl underlying84 sizeOf5 rfl rfl rfl h14 h15) (TQ' 5 rfl (ov_load_elem (v := (.int .u8 x3)) isAgg5 rfl rfl h18) ?_)
       refine AL.any (rs := [7]) (by kernel_rfl) (by decide) ?_
       refine ALs.cons (i := 7) rfl (Runs.free rfl) rfl rfl ?_ ?_
       ·
        obtain ⟨r2, e7, hm⟩ := bind_some hm
        refine OQ.step (oq_con (r := (.int .i64 r2)) call87 rfl rfl (fun w' s => ⟨_, (diagram_index_con x2  w' H s.hold hG r2 e7)⟩)) ?_
        refine ⟨fun w' s => (s.sl [1, 2, 3, 4, 5, 6, 7]), ?_⟩
        obtain ⟨x4, e8, hm⟩ := bind_some hm
        obtain ⟨h19, h20, h21, cs4, h22, h23⟩ := hG.1.1.1.get e8 (by decide)
        obtain rfl : cs4 = [(.int .u8 x4)] := h22
        refine TQ' 8 rfl (ov_indexAddr_globL rfl underlying84 sizeOf5 rfl rfl rfl h19 h20) (TQ' 9 rfl (ov_load_elem (v := (.int .u8 x4)) isAgg5 rfl rfl h23) (TQ' 10 rfl (ov_build (r := (.agg #[(.int .u8 x3), (.int .u8 x4)])) rfl rfl (fun _ => by kernel_rfl)) ?_))
        refine AL.any (rs := [11]) (by kernel_rfl) (by decide) ?_
        refine ALs.cons (i := 11) rfl (Runs.free rfl) rfl rfl ?_ ?_
        ·
         obtain ⟨x5, e9, hm⟩ := bind_some hm
         obtain ⟨h24, h25, h26, cs5, h27, h28⟩ := RL.get rl10 e9
         obtain rfl : cs5 = [(.int .u8 x5.first), (.int .u8 x5.second)] := h27
         refine OQ.step (OV.quiet (ov_indexAddr_own (i := 0) underlying78 sizeOf80 rfl rfl rfl rfl h24 h25)) ?_
         refine ⟨fun w' s => (s.sl [1, 2, 3, 4, 5, 6, 7]), ?_⟩
         refine AL.any (rs := [12]) (by kernel_rfl) (by decide) ?_
         refine ALs.cons0 (i := 12) rfl (Runs.free rfl) rfl ?_ ?_
         ·
          have rl11 := RL.set rl10 (y := (Cell.mk x3 x4)) (off := 0) (vs := [(.int .u8 x3), (.int .u8 x4)]) e9 h28 rfl (Nat.le_of_ble_eq_true rfl)
          have e10 := at?_set (y := (Cell.mk x3 x4)) e9
          refine os_store_own (i := 0) (vs := [(.int .u8 x3), (.int .u8 x4)]) sizeOf80 rfl rfl rfl rfl (own_pos h24 h25) rfl rfl (elem_le (off := 0) h26 (Nat.le_of_ble_eq_true rfl)) rfl ?_
          rw [show l5.length = (List.set l5 (Int.toNat i2) (Cell.mk x3 x4)).length from List.length_set.symm]
          obtain ⟨h29, h30, h31, cs6, h32, h33⟩ := rl11.get e10
          obtain rfl : cs6 = [(.int .u8 x3), (.int .u8 x4)] := h32
          refine ⟨fun w' s => (s.sl [1, 2, 3, 4, 5, 6, 7]), ?_⟩
          refine AL.done (by kernel_rfl) ?_
          refine bn (tn (WP.region (V rfl (ov_add rfl rfl rfl) (Vm rfl (WL.nil (tn ?_))))))
          exact ⟨(IntKind.wrap .i64 (i2 + 1)), (List.set l5 (Int.toNat i2) (Cell.mk x3 x4)), ao8, cap8, (spl xs7 (Int.toNat i2 * encCell.size + 0) [(.int .u8 x3), (.int .u8 x4)]), rl11, (Sub.all rfl), fun w' s => s, hm⟩
         exact ALs.nil
        exact ALs.nil
       exact ALs.nil
      exact ALs.nil
     replace hm := ite_f hc5 hm
     refine WP.exit (then_exit (then_exit (block_here (tn ?_))))
     exact ⟨l5, ao8, cap8, xs7, rl10, (Sub.all rfl), fun w' s => s, hm⟩
    rintro g' S' ⟨l6, ao9, cap9, xs8, rl12, hsub3, hS3, hm⟩
    refine WP.sub hsub3 (WP.weaken hS3 ?_)
    replace hm := (congrFun hk3 l6).symm.trans hm
    obtain ⟨k4, hk4, hm⟩ := joinK_some hm
    refine WP.seq_join (fun g' S' => ∃ (l9 : (List Bool)) (ao12 : _) (cap12 : _) (xs11 : _) (l10 : (List Cell)) (ao13 : _) (cap13 : _) (xs12 : _), RL H encBool l9 xs11 ∧ RL H encCell l10 xs12 ∧ Sub [(1, (pB b1 0)), (3, (.slice (some ⟨b2, 0, none⟩) 3 3)), (4, (.slice ao12 l9.length cap12)), (7, (.slice ao13 l10.length cap13)), (20, (.slice ao1 p_s.steps.length cap1)), (21, (.int .i64 (p_s.steps.length : Int))), (22, (.int .i64 i1)), (1000000007, (.bool false))] g' ∧ (∀ w', S' w' → St w H [rowE 80 encCell l10 ao13 cap13 xs12, rowE 80 encCell l4 ao6 cap6 xs5, rowE 80 encCell l3 ao5 cap5 xs4, rowE 80 encCell l2 ao4 cap4 xs3, rowE 4 encBool l9 ao12 cap12 xs11, .blk b2 78 [(.slice ao4 l2.length cap4), (.slice ao5 l3.length cap5), (.slice ao6 l4.length cap6)], .blk b1 24 [(.int .i64 p_s.actuators), (.slice ao1 p_s.steps.length cap1)]] H w') ∧ k4 l9 l10 = some r) ?_ ?_
    ·
     refine WP.seq (WP.region (V rfl (ov_fieldAddr underlying45 rfl rfl rfl sizeOf43 rfl rfl) (Vl 1 isAgg43 rfl (V rfl (ov_len_slice underlying43 rfl rfl) (Vm rfl (WL.nil (tn (WP.block ?_))))))))
     refine WP.loop (fun m3 g' S' => ∃ (i3 : Int) (l7 : (List Bool)) (ao10 : _) (cap10 : _) (xs9 : _) (l8 : (List Cell)) (ao11 : _) (cap11 : _) (xs10 : _), RL H encBool l7 xs9 ∧ RL H encCell l8 xs10 ∧ Sub [(1, (pB b1 0)), (3, (.slice (some ⟨b2, 0, none⟩) 3 3)), (4, (.slice ao10 l7.length cap10)), (7, (.slice ao11 l8.length cap11)), (20, (.slice ao1 p_s.steps.length cap1)), (21, (.int .i64 (p_s.steps.length : Int))), (22, (.int .i64 i1)), (50, (.slice ao7 x1.strokes.length cap7)), (51, (.int .i64 (x1.strokes.length : Int))), (52, (.int .i64 i3)), (1000000007, (.bool false))] g' ∧ (∀ w', S' w' → St w H [rowE 80 encCell l8 ao11 cap11 xs10, rowE 80 encCell l4 ao6 cap6 xs5, rowE 80 encCell l3 ao5 cap5 xs4, rowE 80 encCell l2 ao4 cap4 xs3, rowE 4 encBool l7 ao10 cap10 xs9, .blk b2 78 [(.slice ao4 l2.length cap4), (.slice ao5 l3.length cap5), (.slice ao6 l4.length cap6)], .blk b1 24 [(.int .i64 p_s.actuators), (.slice ao1 p_s.steps.length cap1)]] H w') ∧ diagram_cells1_loop3 x1 k4 m3 i3 l7 l8 = some r) ((Int.toNat ((x1.strokes.length : Int) - 0) + 1)) ⟨0, l1, ao3, cap3, xs2, l6, ao9, cap9, xs8, rl5, rl12, (Sub.all rfl), fun w' s => (s.sl [0, 2, 3, 4, 5, 6, 7]), hm⟩ ?_ ?_
     ·
      rintro g' S' ⟨_, _, _, _, _, _, _, _, _, _, _, _, _, hm⟩
      exact none_some hm
     rintro m3 g' S' ⟨i3, l7, ao10, cap10, xs9, l8, ao11, cap11, xs10, rl13, rl14, hsub4, hS4, hm⟩
     refine WP.sub hsub4 (WP.weaken hS4 ?_)
     rw [diagram_cells1_loop3] at hm
     refine WP.seq (WP.region (V rfl (ov_lss rfl rfl rfl) (WL.nil (tn (WP.seq ?_)))))
     refine WP.cond rfl (fun hc6 => ?_) (fun hc6 => ?_)
     ·
      replace hm := ite_t hc6 hm
      refine WP.skip (tn (WP.seq (WP.block (WP.seq (WP.region ?_)))))
      obtain ⟨x6, e11, hm⟩ := bind_some hm
      obtain ⟨h34, h35, h36, cs7, h37, h38⟩ := h3.get e11 (by decide)
      obtain rfl : cs7 = [(.int .i64 x6.actuator), (.bool x6.out)] := h37
      refine V rfl (ov_indexAddr underlying43 sizeOf48 rfl rfl rfl h34 h35 h36) (V rfl (ov_load_elems (vs := [(.int .i64 x6.actuator), (.bool x6.out)]) isAgg48 sizeOf48 rfl rfl rfl h38 h36) ?_)
      refine ws rfl (os_alloc (cs := [(.int .i64 0), (.bool false)]) zeroValue48 rfl rfl (fun b6 => ?_))
      refine ws0 rfl (os_store (i := 0) (vs := [(.int .i64 x6.actuator), (.bool x6.out)]) (cs' := [(.int .i64 x6.actuator), (.bool x6.out)]) sizeOf48 rfl rfl rfl rfl rfl rfl rfl rfl rfl ?_)
      refine WL.nil (tn (WP.seq (WP.region (Vm rfl (V rfl (ov_fieldAddr underlying48 rfl rfl rfl sizeOf3 rfl rfl) (Vl 0 isAgg3 rfl (V rfl (ov_fieldAddr underlying48 rfl rfl rfl sizeOf4 rfl rfl) (Vl 0 isAgg4 rfl ?_))))))))
      obtain ⟨x7, e12, hm⟩ := bind_some hm
      obtain ⟨h39, h40, h41, cs8, h42, h43⟩ := RL.get rl13 e12
      obtain rfl : cs8 = [(.bool x7)] := h42
      refine V rfl (ov_indexAddr_own (i := 5) underlying49 sizeOf4 rfl rfl rfl rfl h39 h40) ?_
      have rl15 := RL.set rl13 (y := x6.out) (off := 0) (vs := [(.bool x6.out)]) e12 h43 rfl (Nat.le_of_ble_eq_true rfl)
      have e13 := at?_set (y := x6.out) e12
      refine ws0 rfl (os_store_own (i := 5) (vs := [(.bool x6.out)]) sizeOf4 rfl rfl rfl rfl (own_pos h39 h40) rfl rfl (elem_le (off := 0) h41 (Nat.le_of_ble_eq_true rfl)) rfl ?_)
      rw [show l7.length = (List.set l7 (Int.toNat x6.actuator) x6.out).length from List.length_set.symm]
      obtain ⟨h44, h45, h46, cs9, h47, h48⟩ := rl15.get e13
      obtain rfl : cs9 = [(.bool x6.out)] := h47
      refine WL.nil (tn ?_)
      refine WP.region_any (S₀ := St w H [.blk b6 48 [(.int .i64 x6.actuator), (.bool x6.out)], rowE 80 encCell l4 ao6 cap6 xs5, rowE 80 encCell l3 ao5 cap5 xs4, rowE 80 encCell l2 ao4 cap4 xs3, .row 4 (encBool).size (List.set l7 (Int.toNat x6.actuator) x6.out).length (.slice ao10 (List.set l7 (Int.toNat x6.actuator) x6.out).length cap10) (spl xs9 (Int.toNat x6.actuator * encBool.size + 0) [(.bool x6.out)]), .blk b2 78 [(.slice ao4 l2.length cap4), (.slice ao5 l3.length cap5), (.slice ao6 l4.length cap6)], .blk b1 24 [(.int .i64 p_s.actuators), (.slice ao1 p_s.steps.length cap1)]] H) 16 rfl (by kernel_rfl) (fun w' s => (s.sl [0, 2, 3, 4, 5, 6, 7])) (fun _ s => s.drew) ?_
      refine TQ' 0 rfl (ov_move rfl rfl) (TQ' 1 rfl (ov_fieldAddr underlying48 rfl rfl rfl sizeOf3 rfl rfl) (TQ' 2 rfl (ov_load_box (i := 0) isAgg3 rfl rfl rfl rfl) (TQ' 3 rfl (ov_fieldAddr underlying48 rfl rfl rfl sizeOf4 rfl rfl) (TQ' 4 rfl (ov_load_box (i := 0) isAgg4 rfl rfl rfl rfl) (TQ' 8 rfl (ov_fieldAddr underlying48 rfl rfl rfl sizeOf4 rfl rfl) (TQ' 9 rfl (ov_load_box (i := 0) isAgg4 rfl rfl rfl rfl) ?_))))))
      refine AL.any (rs := [5]) (by kernel_rfl) (by decide) ?_
      refine ALs.cons (i := 5) rfl (Runs.free rfl) rfl rfl ?_ ?_
      ·
       obtain ⟨r3, e14, hm⟩ := bind_some hm
       refine OQ.step (oq_con (r := (.int .i64 r3)) call87 rfl rfl (fun w' s => ⟨_, (diagram_index_con x6.out  w' H s.hold hG r3 e14)⟩)) ?_
       refine ⟨fun w' s => (s.sl [0, 2, 3, 4, 5, 6, 7]), ?_⟩
       obtain ⟨x8, e15, hm⟩ := bind_some hm
       obtain ⟨h49, h50, h51, cs10, h52, h53⟩ := hG.1.1.2.get e15 (by decide)
       obtain rfl : cs10 = [(.int .u8 x8)] := h52
       refine TQ' 6 rfl (ov_indexAddr_globL rfl underlying84 sizeOf5 rfl rfl rfl h49 h50) (TQ' 7 rfl (ov_load_elem (v := (.int .u8 x8)) isAgg5 rfl rfl h53) ?_)
       refine AL.any (rs := [10]) (by kernel_rfl) (by decide) ?_
       refine ALs.cons (i := 10) rfl (Runs.free rfl) rfl rfl ?_ ?_
       ·
        obtain ⟨r4, e16, hm⟩ := bind_some hm
        refine OQ.step (oq_con (r := (.int .i64 r4)) call87 rfl rfl (fun w' s => ⟨_, (diagram_index_con x6.out  w' H s.hold hG r4 e16)⟩)) ?_
        refine ⟨fun w' s => (s.sl [0, 2, 3, 4, 5, 6, 7]), ?_⟩
        obtain ⟨x9, e17, hm⟩ := bind_some hm
        obtain ⟨h54, h55, h56, cs11, h57, h58⟩ := hG.1.1.1.get e17 (by decide)
        obtain rfl : cs11 = [(.int .u8 x9)] := h57
        refine TQ' 11 rfl (ov_indexAddr_globL rfl underlying84 sizeOf5 rfl rfl rfl h54 h55) (TQ' 12 rfl (ov_load_elem (v := (.int .u8 x9)) isAgg5 rfl rfl h58) (TQ' 13 rfl (ov_build (r := (.agg #[(.int .u8 x8), (.int .u8 x9)])) rfl rfl (fun _ => by kernel_rfl)) ?_))
        refine AL.any (rs := [14]) (by kernel_rfl) (by decide) ?_
        refine ALs.cons (i := 14) rfl (Runs.free rfl) rfl rfl ?_ ?_
        ·
         obtain ⟨x10, e18, hm⟩ := bind_some hm
         obtain ⟨h59, h60, h61, cs12, h62, h63⟩ := RL.get rl14 e18
         obtain rfl : cs12 = [(.int .u8 x10.first), (.int .u8 x10.second)] := h62
         refine OQ.step (OV.quiet (ov_indexAddr_own (i := 1) underlying78 sizeOf80 rfl rfl rfl rfl h59 h60)) ?_
         refine ⟨fun w' s => (s.sl [0, 2, 3, 4, 5, 6, 7]), ?_⟩
         refine AL.any (rs := [15]) (by kernel_rfl) (by decide) ?_
         refine ALs.cons0 (i := 15) rfl (Runs.free rfl) rfl ?_ ?_
         ·
          have rl16 := RL.set rl14 (y := (Cell.mk x8 x9)) (off := 0) (vs := [(.int .u8 x8), (.int .u8 x9)]) e18 h63 rfl (Nat.le_of_ble_eq_true rfl)
          have e19 := at?_set (y := (Cell.mk x8 x9)) e18
          refine os_store_own (i := 1) (vs := [(.int .u8 x8), (.int .u8 x9)]) sizeOf80 rfl rfl rfl rfl (own_pos h59 h60) rfl rfl (elem_le (off := 0) h61 (Nat.le_of_ble_eq_true rfl)) rfl ?_
          rw [show l8.length = (List.set l8 (Int.toNat x6.actuator) (Cell.mk x8 x9)).length from List.length_set.symm]
          obtain ⟨h64, h65, h66, cs13, h67, h68⟩ := rl16.get e19
          obtain rfl : cs13 = [(.int .u8 x8), (.int .u8 x9)] := h67
          refine ⟨fun w' s => (s.sl [0, 2, 3, 4, 5, 6, 7]), ?_⟩
          refine AL.done (by kernel_rfl) ?_
          refine bn (tn (WP.region (V rfl (ov_add rfl rfl rfl) (Vm rfl (WL.nil (tn ?_))))))
          exact ⟨(IntKind.wrap .i64 (i3 + 1)), (List.set l7 (Int.toNat x6.actuator) x6.out), ao10, cap10, (spl xs9 (Int.toNat x6.actuator * encBool.size + 0) [(.bool x6.out)]), (List.set l8 (Int.toNat x6.actuator) (Cell.mk x8 x9)), ao11, cap11, (spl xs10 (Int.toNat x6.actuator * encCell.size + 0) [(.int .u8 x8), (.int .u8 x9)]), rl15, rl16, (Sub.all rfl), fun w' s => (s.sl [1, 2, 3, 4, 5, 6, 7]), hm⟩
         exact ALs.nil
        exact ALs.nil
       exact ALs.nil
      exact ALs.nil
     replace hm := ite_f hc6 hm
     refine WP.exit (then_exit (then_exit (block_here (tn ?_))))
     exact ⟨l7, ao10, cap10, xs9, l8, ao11, cap11, xs10, rl13, rl14, (Sub.all rfl), fun w' s => s, hm⟩
    rintro g' S' ⟨l9, ao12, cap12, xs11, l10, ao13, cap13, xs12, rl17, rl18, hsub5, hS5, hm⟩
    refine WP.sub hsub5 (WP.weaken hS5 ?_)
    replace hm := (congrFun (congrFun hk4 l9) l10).symm.trans hm
    refine WP.seq (WP.region (Vm rfl (V rfl (ov_len_slice underlying76 rfl rfl) (Vm rfl (WL.nil (tn (WP.block ?_)))))))
    refine WP.loop (fun m4 g' S' => ∃ (i4 : Int) (l11 : (List Cell)) (ao14 : _) (cap14 : _) (xs13 : _) (l12 : (List Cell)) (ao15 : _) (cap15 : _) (xs14 : _) (l13 : (List Cell)) (ao16 : _) (cap16 : _) (xs15 : _), RL H encCell l11 xs13 ∧ RL H encCell l12 xs14 ∧ RL H encCell l13 xs15 ∧ Sub [(1, (pB b1 0)), (3, (.slice (some ⟨b2, 0, none⟩) 3 3)), (4, (.slice ao12 l9.length cap12)), (7, (.slice ao13 l10.length cap13)), (20, (.slice ao1 p_s.steps.length cap1)), (21, (.int .i64 (p_s.steps.length : Int))), (22, (.int .i64 i1)), (79, (.int .i64 3)), (80, (.int .i64 i4)), (1000000007, (.bool false))] g' ∧ (∀ w', S' w' → St w H [rowE 80 encCell l10 ao13 cap13 xs12, rowE 80 encCell l13 ao16 cap16 xs15, rowE 80 encCell l12 ao15 cap15 xs14, rowE 80 encCell l11 ao14 cap14 xs13, rowE 4 encBool l9 ao12 cap12 xs11, .blk b2 78 [(.slice ao14 l11.length cap14), (.slice ao15 l12.length cap15), (.slice ao16 l13.length cap16)], .blk b1 24 [(.int .i64 p_s.actuators), (.slice ao1 p_s.steps.length cap1)]] H w') ∧ diagram_cells3_loop4 k2 l10 l9 m4 i4 l11 l12 l13 = some r) ((Int.toNat (3 - 0) + 1)) ⟨0, l2, ao4, cap4, xs3, l3, ao5, cap5, xs4, l4, ao6, cap6, xs5, rl6, rl7, rl8, (Sub.all rfl), fun w' s => s, hm⟩ ?_ ?_
    ·
     rintro g' S' ⟨_, _, _, _, _, _, _, _, _, _, _, _, _, _, _, _, _, _, hm⟩
     exact none_some hm
    rintro m4 g' S' ⟨i4, l11, ao14, cap14, xs13, l12, ao15, cap15, xs14, l13, ao16, cap16, xs15, rl19, rl20, rl21, hsub6, hS6, hm⟩
    refine WP.sub hsub6 (WP.weaken hS6 ?_)
    rw [diagram_cells3_loop4] at hm
    refine WP.seq (WP.region (V rfl (ov_lss rfl rfl rfl) (WL.nil (tn (WP.seq ?_)))))
    refine WP.cond rfl (fun hc7 => ?_) (fun hc7 => ?_)
    ·
     replace hm := ite_t hc7 hm
     refine WP.skip (tn (WP.seq (WP.block (WP.seq (WP.region (Vm rfl (Va rfl (WL.nil (tn ?_)))))))))
     refine WP.region_any (S₀ := St w H [rowE 80 encCell l10 ao13 cap13 xs12, rowE 4 encBool l9 ao12 cap12 xs11, .blk b1 24 [(.int .i64 p_s.actuators), (.slice ao1 p_s.steps.length cap1)]] H) 14 rfl (by kernel_rfl) (fun w' s => (s.sl [0, 4, 6])) (fun _ s => s.drew) ?_
     refine TQ' 0 rfl (ov_move rfl rfl) (TQ' 1 rfl (ov_move rfl rfl) (TQ' 2 rfl (ov_move rfl rfl) (TQ' 3 rfl (ov_move rfl rfl) ?_)))
     rcases Bool.eq_false_or_eq_true (i4 == 0) with hc8 | hc8
     ·
      replace hm := ite_t hc8 hm
      refine TQ' 4 rfl (ov_indexAddr_bsl (j := 0) underlying76 sizeOf78 rfl rfl rfl (eq_of_beq hc8) rfl) (TQ' 6 rfl (ov_move rfl rfl) (TQ' 7 rfl (ov_move rfl rfl) ?_))
      obtain ⟨x11, e20, hm⟩ := bind_some hm
      obtain ⟨h69, h70, h71, cs14, h72, h73⟩ := RL.get rl18 e20
      obtain rfl : cs14 = [(.int .u8 x11.first), (.int .u8 x11.second)] := h72
      refine TQ' 8 rfl (ov_indexAddr_own (i := 0) underlying78 sizeOf80 rfl rfl rfl rfl h69 h70) (TQ' 9 rfl (ov_load_owns (i := 0) (vs := [(.int .u8 x11.first), (.int .u8 x11.second)]) isAgg80 sizeOf80 rfl rfl rfl (own_pos h69 h70) rfl (fun j u hu => elem_cell h73 hu)) ?_)
      refine AL.any (rs := [5, 10]) (by kernel_rfl) (by decide) ?_
      refine ALs.cons (i := 5) rfl (Runs.free rfl) rfl rfl ?_ ?_
      ·
       refine OQ.step (OV.quiet (ov_load_box (i := 5) isAgg78 rfl rfl rfl rfl)) ?_
       refine ⟨fun w' s => (s.sl [0, 4, 6]), ?_⟩
       refine AL.any (rs := [10]) (by kernel_rfl) (by decide) ?_
       refine ALs.cons (i := 10) rfl (Runs.free rfl) rfl rfl ?_ ?_
       ·
        have rl22 : RL H encCell ([x11] : List Cell) [(.int .u8 x11.first), (.int .u8 x11.second)] := RL.cons (cs := [(.int .u8 x11.first), (.int .u8 x11.second)]) (xs := []) rfl (RL.nil _ _)
        refine os_buildSlice (cs := [(.int .u8 x11.first), (.int .u8 x11.second)]) (E := 80) (sz := 2) rfl rfl (fun _ => by kernel_rfl) rfl (by decide) (fun b7 => ?_)
        refine ⟨fun w' s => (s.sl [1, 5, 7]), ?_⟩
        refine AL.any (rs := [11]) (by kernel_rfl) (by decide) ?_
        refine ALs.cons (i := 11) rfl (Runs.free rfl) rfl rfl ?_ ?_
        ·
         obtain ⟨l14, e21, hm⟩ := bind_some hm
         refine os_app (i := 4) (j := 0) (En := encCell) (xs := xs13) (ys := [(.int .u8 x11.first), (.int .u8 x11.second)]) underlying78 (by kernel_rfl : (prog.info? 80).map (fun i => (i.zero, i.size, i.bytes)) = some (some (.agg #[(.int .u8 0), (.int .u8 0)]), (encCell).size, 2)) rfl (by decide) rfl rfl rfl rfl rfl rfl rl19 rl22 e21 (fun ao17 cap17 rl23 => ?_)
         refine ⟨fun w' s => (s.sl [1, 5, 7]), ?_⟩
         refine TQ' 12 rfl (ov_indexAddr_bsl (j := 0) underlying76 sizeOf78 rfl rfl rfl (eq_of_beq hc8) rfl) ?_
         refine AL.any (rs := [13]) (by kernel_rfl) (by decide) ?_
         refine ALs.cons0 (i := 13) rfl (Runs.free rfl) rfl ?_ ?_
         ·
          refine os_store (i := 6) (vs := [(.slice ao17 (l11 ++ ([x11] : List Cell)).length cap17)]) (cs' := [(.slice ao17 (l11 ++ ([x11] : List Cell)).length cap17), (.slice ao15 l12.length cap15), (.slice ao16 l13.length cap16)]) sizeOf78 rfl rfl rfl rfl rfl rfl rfl rfl rfl ?_
          refine ⟨fun w' s => (s.sl [1, 5, 7]), ?_⟩
          refine AL.done (by kernel_rfl) ?_
          refine bn (tn (WP.region (V rfl (ov_add rfl rfl rfl) (Vm rfl (WL.nil (tn ?_))))))
          exact ⟨(IntKind.wrap .i64 (i4 + 1)), (l11 ++ ([x11] : List Cell)), ao17, cap17, (xs13 ++ [(.int .u8 x11.first), (.int .u8 x11.second)]), l12, ao15, cap15, xs14, l13, ao16, cap16, xs15, rl23, rl20, rl21, (Sub.all rfl), fun w' s => (s.sl [1, 2, 3, 4, 5, 6, 7]), hm⟩
         exact ALs.nil
        exact ALs.nil
       exact ALs.nil
      refine ALs.cons (i := 10) rfl (Runs.free rfl) rfl rfl ?_ ?_
      ·
       have rl22 : RL H encCell ([x11] : List Cell) [(.int .u8 x11.first), (.int .u8 x11.second)] := RL.cons (cs := [(.int .u8 x11.first), (.int .u8 x11.second)]) (xs := []) rfl (RL.nil _ _)
       refine os_buildSlice (cs := [(.int .u8 x11.first), (.int .u8 x11.second)]) (E := 80) (sz := 2) rfl rfl (fun _ => by kernel_rfl) rfl (by decide) (fun b7 => ?_)
       refine ⟨fun w' s => (s.sl [1, 5, 7]), ?_⟩
       refine AL.any (rs := [5]) (by kernel_rfl) (by decide) ?_
       refine ALs.cons (i := 5) rfl (Runs.free rfl) rfl rfl ?_ ?_
       ·
        refine OQ.step (OV.quiet (ov_load_box (i := 6) isAgg78 rfl rfl rfl rfl)) ?_
        refine ⟨fun w' s => (s.sl [1, 5, 7]), ?_⟩
        refine AL.any (rs := [11]) (by kernel_rfl) (by decide) ?_
        refine ALs.cons (i := 11) rfl (Runs.free rfl) rfl rfl ?_ ?_
        ·
         obtain ⟨l14, e21, hm⟩ := bind_some hm
         refine os_app (i := 4) (j := 0) (En := encCell) (xs := xs13) (ys := [(.int .u8 x11.first), (.int .u8 x11.second)]) underlying78 (by kernel_rfl : (prog.info? 80).map (fun i => (i.zero, i.size, i.bytes)) = some (some (.agg #[(.int .u8 0), (.int .u8 0)]), (encCell).size, 2)) rfl (by decide) rfl rfl rfl rfl rfl rfl rl19 rl22 e21 (fun ao17 cap17 rl23 => ?_)
         refine ⟨fun w' s => (s.sl [1, 5, 7]), ?_⟩
         refine TQ' 12 rfl (ov_indexAddr_bsl (j := 0) underlying76 sizeOf78 rfl rfl rfl (eq_of_beq hc8) rfl) ?_
         refine AL.any (rs := [13]) (by kernel_rfl) (by decide) ?_
         refine ALs.cons0 (i := 13) rfl (Runs.free rfl) rfl ?_ ?_
         ·
          refine os_store (i := 6) (vs := [(.slice ao17 (l11 ++ ([x11] : List Cell)).length cap17)]) (cs' := [(.slice ao17 (l11 ++ ([x11] : List Cell)).length cap17), (.slice ao15 l12.length cap15), (.slice ao16 l13.length cap16)]) sizeOf78 rfl rfl rfl rfl rfl rfl rfl rfl rfl ?_
          refine ⟨fun w' s => (s.sl [1, 5, 7]), ?_⟩
          refine AL.done (by kernel_rfl) ?_
          refine bn (tn (WP.region (V rfl (ov_add rfl rfl rfl) (Vm rfl (WL.nil (tn ?_))))))
          exact ⟨(IntKind.wrap .i64 (i4 + 1)), (l11 ++ ([x11] : List Cell)), ao17, cap17, (xs13 ++ [(.int .u8 x11.first), (.int .u8 x11.second)]), l12, ao15, cap15, xs14, l13, ao16, cap16, xs15, rl23, rl20, rl21, (Sub.all rfl), fun w' s => (s.sl [1, 2, 3, 4, 5, 6, 7]), hm⟩
         exact ALs.nil
        exact ALs.nil
       exact ALs.nil
      exact ALs.nil
     replace hm := ite_f hc8 hm
     rcases Bool.eq_false_or_eq_true (i4 == 1) with hc9 | hc9
     ·
      replace hm := ite_t hc9 hm
      refine TQ' 4 rfl (ov_indexAddr_bsl (j := 1) underlying76 sizeOf78 rfl rfl rfl (eq_of_beq hc9) rfl) (TQ' 6 rfl (ov_move rfl rfl) (TQ' 7 rfl (ov_move rfl rfl) ?_))
      obtain ⟨x12, e22, hm⟩ := bind_some hm
      obtain ⟨h74, h75, h76, cs15, h77, h78⟩ := RL.get rl18 e22
      obtain rfl : cs15 = [(.int .u8 x12.first), (.int .u8 x12.second)] := h77
      refine TQ' 8 rfl (ov_indexAddr_own (i := 0) underlying78 sizeOf80 rfl rfl rfl rfl h74 h75) (TQ' 9 rfl (ov_load_owns (i := 0) (vs := [(.int .u8 x12.first), (.int .u8 x12.second)]) isAgg80 sizeOf80 rfl rfl rfl (own_pos h74 h75) rfl (fun j u hu => elem_cell h78 hu)) ?_)
      refine AL.any (rs := [5, 10]) (by kernel_rfl) (by decide) ?_
      refine ALs.cons (i := 5) rfl (Runs.free rfl) rfl rfl ?_ ?_
      ·
       refine OQ.step (OV.quiet (ov_load_box (i := 5) isAgg78 rfl rfl rfl rfl)) ?_
       refine ⟨fun w' s => (s.sl [0, 4, 6]), ?_⟩
       refine AL.any (rs := [10]) (by kernel_rfl) (by decide) ?_
       refine ALs.cons (i := 10) rfl (Runs.free rfl) rfl rfl ?_ ?_
       ·
        have rl24 : RL H encCell ([x12] : List Cell) [(.int .u8 x12.first), (.int .u8 x12.second)] := RL.cons (cs := [(.int .u8 x12.first), (.int .u8 x12.second)]) (xs := []) rfl (RL.nil _ _)
        refine os_buildSlice (cs := [(.int .u8 x12.first), (.int .u8 x12.second)]) (E := 80) (sz := 2) rfl rfl (fun _ => by kernel_rfl) rfl (by decide) (fun b8 => ?_)
        refine ⟨fun w' s => (s.sl [1, 5, 7]), ?_⟩
        refine AL.any (rs := [11]) (by kernel_rfl) (by decide) ?_
        refine ALs.cons (i := 11) rfl (Runs.free rfl) rfl rfl ?_ ?_
        ·
         obtain ⟨l15, e23, hm⟩ := bind_some hm
         refine os_app (i := 3) (j := 0) (En := encCell) (xs := xs14) (ys := [(.int .u8 x12.first), (.int .u8 x12.second)]) underlying78 (by kernel_rfl : (prog.info? 80).map (fun i => (i.zero, i.size, i.bytes)) = some (some (.agg #[(.int .u8 0), (.int .u8 0)]), (encCell).size, 2)) rfl (by decide) rfl rfl rfl rfl rfl rfl rl20 rl24 e23 (fun ao18 cap18 rl25 => ?_)
         refine ⟨fun w' s => (s.sl [1, 5, 7]), ?_⟩
         refine TQ' 12 rfl (ov_indexAddr_bsl (j := 1) underlying76 sizeOf78 rfl rfl rfl (eq_of_beq hc9) rfl) ?_
         refine AL.any (rs := [13]) (by kernel_rfl) (by decide) ?_
         refine ALs.cons0 (i := 13) rfl (Runs.free rfl) rfl ?_ ?_
         ·
          refine os_store (i := 6) (vs := [(.slice ao18 (l12 ++ ([x12] : List Cell)).length cap18)]) (cs' := [(.slice ao14 l11.length cap14), (.slice ao18 (l12 ++ ([x12] : List Cell)).length cap18), (.slice ao16 l13.length cap16)]) sizeOf78 rfl rfl rfl rfl rfl rfl rfl rfl rfl ?_
          refine ⟨fun w' s => (s.sl [1, 5, 7]), ?_⟩
          refine AL.done (by kernel_rfl) ?_
          refine bn (tn (WP.region (V rfl (ov_add rfl rfl rfl) (Vm rfl (WL.nil (tn ?_))))))
          exact ⟨(IntKind.wrap .i64 (i4 + 1)), l11, ao14, cap14, xs13, (l12 ++ ([x12] : List Cell)), ao18, cap18, (xs14 ++ [(.int .u8 x12.first), (.int .u8 x12.second)]), l13, ao16, cap16, xs15, rl19, rl25, rl21, (Sub.all rfl), fun w' s => (s.sl [1, 2, 3, 4, 5, 6, 7]), hm⟩
         exact ALs.nil
        exact ALs.nil
       exact ALs.nil
      refine ALs.cons (i := 10) rfl (Runs.free rfl) rfl rfl ?_ ?_
      ·
       have rl24 : RL H encCell ([x12] : List Cell) [(.int .u8 x12.first), (.int .u8 x12.second)] := RL.cons (cs := [(.int .u8 x12.first), (.int .u8 x12.second)]) (xs := []) rfl (RL.nil _ _)
       refine os_buildSlice (cs := [(.int .u8 x12.first), (.int .u8 x12.second)]) (E := 80) (sz := 2) rfl rfl (fun _ => by kernel_rfl) rfl (by decide) (fun b8 => ?_)
       refine ⟨fun w' s => (s.sl [1, 5, 7]), ?_⟩
       refine AL.any (rs := [5]) (by kernel_rfl) (by decide) ?_
       refine ALs.cons (i := 5) rfl (Runs.free rfl) rfl rfl ?_ ?_
       ·
        refine OQ.step (OV.quiet (ov_load_box (i := 6) isAgg78 rfl rfl rfl rfl)) ?_
        refine ⟨fun w' s => (s.sl [1, 5, 7]), ?_⟩
        refine AL.any (rs := [11]) (by kernel_rfl) (by decide) ?_
        refine ALs.cons (i := 11) rfl (Runs.free rfl) rfl rfl ?_ ?_
        ·
         obtain ⟨l15, e23, hm⟩ := bind_some hm
         refine os_app (i := 3) (j := 0) (En := encCell) (xs := xs14) (ys := [(.int .u8 x12.first), (.int .u8 x12.second)]) underlying78 (by kernel_rfl : (prog.info? 80).map (fun i => (i.zero, i.size, i.bytes)) = some (some (.agg #[(.int .u8 0), (.int .u8 0)]), (encCell).size, 2)) rfl (by decide) rfl rfl rfl rfl rfl rfl rl20 rl24 e23 (fun ao18 cap18 rl25 => ?_)
         refine ⟨fun w' s => (s.sl [1, 5, 7]), ?_⟩
         refine TQ' 12 rfl (ov_indexAddr_bsl (j := 1) underlying76 sizeOf78 rfl rfl rfl (eq_of_beq hc9) rfl) ?_
         refine AL.any (rs := [13]) (by kernel_rfl) (by decide) ?_
         refine ALs.cons0 (i := 13) rfl (Runs.free rfl) rfl ?_ ?_
         ·
          refine os_store (i := 6) (vs := [(.slice ao18 (l12 ++ ([x12] : List Cell)).length cap18)]) (cs' := [(.slice ao14 l11.length cap14), (.slice ao18 (l12 ++ ([x12] : List Cell)).length cap18), (.slice ao16 l13.length cap16)]) sizeOf78 rfl rfl rfl rfl rfl rfl rfl rfl rfl ?_
          refine ⟨fun w' s => (s.sl [1, 5, 7]), ?_⟩
          refine AL.done (by kernel_rfl) ?_
          refine bn (tn (WP.region (V rfl (ov_add rfl rfl rfl) (Vm rfl (WL.nil (tn ?_))))))
          exact ⟨(IntKind.wrap .i64 (i4 + 1)), l11, ao14, cap14, xs13, (l12 ++ ([x12] : List Cell)), ao18, cap18, (xs14 ++ [(.int .u8 x12.first), (.int .u8 x12.second)]), l13, ao16, cap16, xs15, rl19, rl25, rl21, (Sub.all rfl), fun w' s => (s.sl [1, 2, 3, 4, 5, 6, 7]), hm⟩
         exact ALs.nil
        exact ALs.nil
       exact ALs.nil
      exact ALs.nil
     replace hm := ite_f hc9 hm
     rcases Bool.eq_false_or_eq_true (i4 == 2) with hc10 | hc10
     ·
      replace hm := ite_t hc10 hm
      refine TQ' 4 rfl (ov_indexAddr_bsl (j := 2) underlying76 sizeOf78 rfl rfl rfl (eq_of_beq hc10) rfl) (TQ' 6 rfl (ov_move rfl rfl) (TQ' 7 rfl (ov_move rfl rfl) ?_))
      obtain ⟨x13, e24, hm⟩ := bind_some hm
      obtain ⟨h79, h80, h81, cs16, h82, h83⟩ := RL.get rl18 e24
      obtain rfl : cs16 = [(.int .u8 x13.first), (.int .u8 x13.second)] := h82
      refine TQ' 8 rfl (ov_indexAddr_own (i := 0) underlying78 sizeOf80 rfl rfl rfl rfl h79 h80) (TQ' 9 rfl (ov_load_owns (i := 0) (vs := [(.int .u8 x13.first), (.int .u8 x13.second)]) isAgg80 sizeOf80 rfl rfl rfl (own_pos h79 h80) rfl (fun j u hu => elem_cell h83 hu)) ?_)
      refine AL.any (rs := [5, 10]) (by kernel_rfl) (by decide) ?_
      refine ALs.cons (i := 5) rfl (Runs.free rfl) rfl rfl ?_ ?_
      ·
       refine OQ.step (OV.quiet (ov_load_box (i := 5) isAgg78 rfl rfl rfl rfl)) ?_
       refine ⟨fun w' s => (s.sl [0, 4, 6]), ?_⟩
       refine AL.any (rs := [10]) (by kernel_rfl) (by decide) ?_
       refine ALs.cons (i := 10) rfl (Runs.free rfl) rfl rfl ?_ ?_
       ·
        have rl26 : RL H encCell ([x13] : List Cell) [(.int .u8 x13.first), (.int .u8 x13.second)] := RL.cons (cs := [(.int .u8 x13.first), (.int .u8 x13.second)]) (xs := []) rfl (RL.nil _ _)
        refine os_buildSlice (cs := [(.int .u8 x13.first), (.int .u8 x13.second)]) (E := 80) (sz := 2) rfl rfl (fun _ => by kernel_rfl) rfl (by decide) (fun b9 => ?_)
        refine ⟨fun w' s => (s.sl [1, 5, 7]), ?_⟩
        refine AL.any (rs := [11]) (by kernel_rfl) (by decide) ?_
        refine ALs.cons (i := 11) rfl (Runs.free rfl) rfl rfl ?_ ?_
        ·
         obtain ⟨l16, e25, hm⟩ := bind_some hm
         refine os_app (i := 2) (j := 0) (En := encCell) (xs := xs15) (ys := [(.int .u8 x13.first), (.int .u8 x13.second)]) underlying78 (by kernel_rfl : (prog.info? 80).map (fun i => (i.zero, i.size, i.bytes)) = some (some (.agg #[(.int .u8 0), (.int .u8 0)]), (encCell).size, 2)) rfl (by decide) rfl rfl rfl rfl rfl rfl rl21 rl26 e25 (fun ao19 cap19 rl27 => ?_)
         refine ⟨fun w' s => (s.sl [1, 5, 7]), ?_⟩
         refine TQ' 12 rfl (ov_indexAddr_bsl (j := 2) underlying76 sizeOf78 rfl rfl rfl (eq_of_beq hc10) rfl) ?_
         refine AL.any (rs := [13]) (by kernel_rfl) (by decide) ?_
         refine ALs.cons0 (i := 13) rfl (Runs.free rfl) rfl ?_ ?_
         ·
          refine os_store (i := 6) (vs := [(.slice ao19 (l13 ++ ([x13] : List Cell)).length cap19)]) (cs' := [(.slice ao14 l11.length cap14), (.slice ao15 l12.length cap15), (.slice ao19 (l13 ++ ([x13] : List Cell)).length cap19)]) sizeOf78 rfl rfl rfl rfl rfl rfl rfl rfl rfl ?_
          refine ⟨fun w' s => (s.sl [1, 5, 7]), ?_⟩
          refine AL.done (by kernel_rfl) ?_
          refine bn (tn (WP.region (V rfl (ov_add rfl rfl rfl) (Vm rfl (WL.nil (tn ?_))))))
          exact ⟨(IntKind.wrap .i64 (i4 + 1)), l11, ao14, cap14, xs13, l12, ao15, cap15, xs14, (l13 ++ ([x13] : List Cell)), ao19, cap19, (xs15 ++ [(.int .u8 x13.first), (.int .u8 x13.second)]), rl19, rl20, rl27, (Sub.all rfl), fun w' s => (s.sl [1, 2, 3, 4, 5, 6, 7]), hm⟩
         exact ALs.nil
        exact ALs.nil
       exact ALs.nil
      refine ALs.cons (i := 10) rfl (Runs.free rfl) rfl rfl ?_ ?_
      ·
       have rl26 : RL H encCell ([x13] : List Cell) [(.int .u8 x13.first), (.int .u8 x13.second)] := RL.cons (cs := [(.int .u8 x13.first), (.int .u8 x13.second)]) (xs := []) rfl (RL.nil _ _)
       refine os_buildSlice (cs := [(.int .u8 x13.first), (.int .u8 x13.second)]) (E := 80) (sz := 2) rfl rfl (fun _ => by kernel_rfl) rfl (by decide) (fun b9 => ?_)
       refine ⟨fun w' s => (s.sl [1, 5, 7]), ?_⟩
       refine AL.any (rs := [5]) (by kernel_rfl) (by decide) ?_
       refine ALs.cons (i := 5) rfl (Runs.free rfl) rfl rfl ?_ ?_
       ·
        refine OQ.step (OV.quiet (ov_load_box (i := 6) isAgg78 rfl rfl rfl rfl)) ?_
        refine ⟨fun w' s => (s.sl [1, 5, 7]), ?_⟩
        refine AL.any (rs := [11]) (by kernel_rfl) (by decide) ?_
        refine ALs.cons (i := 11) rfl (Runs.free rfl) rfl rfl ?_ ?_
        ·
         obtain ⟨l16, e25, hm⟩ := bind_some hm
         refine os_app (i := 2) (j := 0) (En := encCell) (xs := xs15) (ys := [(.int .u8 x13.first), (.int .u8 x13.second)]) underlying78 (by kernel_rfl : (prog.info? 80).map (fun i => (i.zero, i.size, i.bytes)) = some (some (.agg #[(.int .u8 0), (.int .u8 0)]), (encCell).size, 2)) rfl (by decide) rfl rfl rfl rfl rfl rfl rl21 rl26 e25 (fun ao19 cap19 rl27 => ?_)
         refine ⟨fun w' s => (s.sl [1, 5, 7]), ?_⟩
         refine TQ' 12 rfl (ov_indexAddr_bsl (j := 2) underlying76 sizeOf78 rfl rfl rfl (eq_of_beq hc10) rfl) ?_
         refine AL.any (rs := [13]) (by kernel_rfl) (by decide) ?_
         refine ALs.cons0 (i := 13) rfl (Runs.free rfl) rfl ?_ ?_
         ·
          refine os_store (i := 6) (vs := [(.slice ao19 (l13 ++ ([x13] : List Cell)).length cap19)]) (cs' := [(.slice ao14 l11.length cap14), (.slice ao15 l12.length cap15), (.slice ao19 (l13 ++ ([x13] : List Cell)).length cap19)]) sizeOf78 rfl rfl rfl rfl rfl rfl rfl rfl rfl ?_
          refine ⟨fun w' s => (s.sl [1, 5, 7]), ?_⟩
          refine AL.done (by kernel_rfl) ?_
          refine bn (tn (WP.region (V rfl (ov_add rfl rfl rfl) (Vm rfl (WL.nil (tn ?_))))))
          exact ⟨(IntKind.wrap .i64 (i4 + 1)), l11, ao14, cap14, xs13, l12, ao15, cap15, xs14, (l13 ++ ([x13] : List Cell)), ao19, cap19, (xs15 ++ [(.int .u8 x13.first), (.int .u8 x13.second)]), rl19, rl20, rl27, (Sub.all rfl), fun w' s => (s.sl [1, 2, 3, 4, 5, 6, 7]), hm⟩
         exact ALs.nil
        exact ALs.nil
       exact ALs.nil
      exact ALs.nil
     replace hm := ite_f hc10 hm
     exact (none_some hm).elim
    replace hm := ite_f hc7 hm
    refine WP.exit (then_exit (then_exit (block_here (bn (tn ?_)))))
    exact ⟨l9, ao12, cap12, xs11, l11, ao14, cap14, xs13, l12, ao15, cap15, xs14, l13, ao16, cap16, xs15, rl17, rl19, rl20, rl21, (Sub.all rfl), fun w' s => (s.sl [1, 2, 3, 4, 5, 6]), hm⟩
   rintro g' S' ⟨l17, ao20, cap20, xs16, l18, ao21, cap21, xs17, l19, ao22, cap22, xs18, l20, ao23, cap23, xs19, rl28, rl29, rl30, rl31, hsub7, hS7, hm⟩
   refine WP.sub hsub7 (WP.weaken hS7 ?_)
   replace hm := (congrFun (congrFun (congrFun (congrFun hk2 l17) l18) l19) l20).symm.trans hm
   refine WP.region (V rfl (ov_add rfl rfl rfl) (Vm rfl (WL.nil (tn ?_))))
   exact ⟨(IntKind.wrap .i64 (i1 + 1)), l17, ao20, cap20, xs16, l18, ao21, cap21, xs17, l19, ao22, cap22, xs18, l20, ao23, cap23, xs19, rl28, rl29, rl30, rl31, (Sub.all rfl), fun w' s => s, hm⟩
  replace hm := ite_f hc3 hm
  refine WP.exit (then_exit (then_exit (block_here (tn ?_))))
  exact ⟨l2, ao4, cap4, xs3, l3, ao5, cap5, xs4, l4, ao6, cap6, xs5, rl6, rl7, rl8, (Sub.all rfl), fun w' s => (s.sl [0, 1, 2, 4]), hm⟩
 rintro g' S' ⟨l21, ao24, cap24, xs20, l22, ao25, cap25, xs21, l23, ao26, cap26, xs22, rl32, rl33, rl34, hsub8, hS8, hm⟩
 refine WP.sub hsub8 (WP.weaken hS8 ?_)
 replace hm := (congrFun (congrFun (congrFun hk1 l21) l22) l23).symm.trans hm
 refine WP.seq (WP.region (Vm rfl ?_))
 refine WL.weaken (fun _ s => s.sl [2, 0, 1, 3]) ?_
 refine WL.held rl32 (fun H1 hc11 hle1 h84 => ?_)
 replace rl34 := rl34.mono hle1
 replace rl33 := rl33.mono hle1
 refine WL.weaken (fun _ s => s.sl [1, 0, 2]) ?_
 refine WL.held rl33 (fun H2 hc12 hle2 h85 => ?_)
 replace rl34 := rl34.mono hle2
 replace h84 := h84.mono hle2
 refine WL.held rl34 (fun H3 hc13 hle3 h86 => ?_)
 replace h84 := h84.mono hle3
 replace h85 := h85.mono hle3
 have rl35 : RL H3 (encSl encCell) ([l21, l22, l23] : List (List Cell)) [(.slice ao24 l21.length cap24), (.slice ao25 l22.length cap25), (.slice ao26 l23.length cap26)] := RL.cons (cs := [(.slice ao24 l21.length cap24)]) (xs := [(.slice ao25 l22.length cap25), (.slice ao26 l23.length cap26)]) ⟨ao24, cap24, rfl, h84, hc11⟩ (RL.cons (cs := [(.slice ao25 l22.length cap25)]) (xs := [(.slice ao26 l23.length cap26)]) ⟨ao25, cap25, rfl, h85, hc12⟩ (RL.cons (cs := [(.slice ao26 l23.length cap26)]) (xs := []) ⟨ao26, cap26, rfl, h86, hc13⟩ (RL.nil _ _)))
 refine WL.weaken (fun _ s => s.blk_rowN (N := 3) (sz := 1) rfl (by decide)) ?_
 refine Va rfl (WL.nil (tn (WP.ret ?_)))
 obtain rfl := Option.some.inj hm
 refine retQ_ret results43 (Res.tmp rfl Res.nil) rfl (fun w' s => ⟨s.below, ?_⟩)
 obtain ⟨h87, hc14⟩ := s.ret_row (i := 0) rfl rl35
 exact ⟨(some ⟨b2, 0, none⟩), 3, rfl, h87, hc14⟩
theorem diagram_cells4_con (p_s : Sequence) (ao1 : Option Addr) (cap1 : Nat) (w : World) (H : Heap) (hH : Le H (hp w)) (h1 : SL H encStep ao1 p_s.steps) (hc1 : p_s.steps.length ≤ cap1) (hG : Glob H) (hn : (p_s.actuators == 4) = true) (r : (List (List Cell))) (hm : diagram_cells4 p_s = some r) :
  Con prog 43 [(.agg #[(.int .i64 p_s.actuators), (.slice ao1 p_s.steps.length cap1)])] w H (fun v H' => ∃ (ao2 : Option Addr) (cap2 : Nat), v = (.slice ao2 r.length cap2) ∧ SL H' (encSl encCell) ao2 r ∧ r.length ≤ cap2) := by
 unfold diagram_cells4 at hm
 refine con_of hH func43 rfl 99 ntmps43 rfl ?_
 refine WP.seq (WP.region ?_)
 refine ws rfl (os_box (cs := [(.int .i64 p_s.actuators), (.slice ao1 p_s.steps.length cap1)]) rfl rfl rfl (fun b1 => ?_))
 refine Va rfl (WL.nil (tn (WP.seq (WP.region (V rfl (ov_fieldAddr underlying24 rfl rfl rfl sizeOf3 rfl rfl) (Vl 0 isAgg3 rfl ?_))))))
 refine ws rfl (os_makeSlice_n (N := 4) (sz := 1) (bytes := 24) (z := (.slice none 0 0)) (cs := [(.slice none 0 0), (.slice none 0 0), (.slice none 0 0), (.slice none 0 0)]) underlying76 (by kernel_rfl) (by kernel_rfl) rfl rfl rfl (eq_of_beq hn) (by decide) (by decide) (fun b2 => ?_))
 refine Va rfl (WL.nil (tn (WP.seq (WP.region (V rfl (ov_fieldAddr underlying24 rfl rfl rfl sizeOf3 rfl rfl) (Vl 1 isAgg3 rfl ?_))))))
 obtain ⟨u1, e1, hm⟩ := bind_some hm
 replace e1 := guardO_some e1
 refine ws rfl (os_makeSlice (En := encBool) (z := (.bool false)) (y0 := false) (bytes := 1) underlying49 (by kernel_rfl) rfl (by decide) rfl rfl rfl e1 (fun b3 xs1 rl1 => ?_))
 refine Va rfl (WL.nil (tn ?_))
 obtain ⟨k1, hk1, hm⟩ := joinK_some hm
 refine WP.seq_join (fun g' S' => ∃ (l25 : (List Cell)) (ao28 : _) (cap28 : _) (xs23 : _) (l26 : (List Cell)) (ao29 : _) (cap29 : _) (xs24 : _) (l27 : (List Cell)) (ao30 : _) (cap30 : _) (xs25 : _) (l28 : (List Cell)) (ao31 : _) (cap31 : _) (xs26 : _), RL H encCell l25 xs23 ∧ RL H encCell l26 xs24 ∧ RL H encCell l27 xs25 ∧ RL H encCell l28 xs26 ∧ Sub [(3, (.slice (some ⟨b2, 0, none⟩) 4 4)), (1000000007, (.bool false))] g' ∧ (∀ w', S' w' → St w H [rowE 80 encCell l28 ao31 cap31 xs26, rowE 80 encCell l27 ao30 cap30 xs25, rowE 80 encCell l26 ao29 cap29 xs24, rowE 80 encCell l25 ao28 cap28 xs23, .blk b2 78 [(.slice ao28 l25.length cap28), (.slice ao29 l26.length cap29), (.slice ao30 l27.length cap30), (.slice ao31 l28.length cap31)]] H w') ∧ k1 l25 l26 l27 l28 = some r) ?_ ?_
 ·
  refine WP.seq (WP.region (V rfl (ov_fieldAddr underlying24 rfl rfl rfl sizeOf22 rfl rfl) (Vl 2 isAgg22 rfl (V rfl (ov_len_slice underlying22 rfl rfl) (Vm rfl (WL.nil (tn (WP.block ?_))))))))
  have rl2 := RL.nil (α := Cell) H encCell
  refine WP.weaken (fun _ s => s.nilrow 80 (encCell).size) ?_
  have rl3 := RL.nil (α := Cell) H encCell
  refine WP.weaken (fun _ s => s.nilrow 80 (encCell).size) ?_
  have rl4 := RL.nil (α := Cell) H encCell
  refine WP.weaken (fun _ s => s.nilrow 80 (encCell).size) ?_
  have rl5 := RL.nil (α := Cell) H encCell
  refine WP.weaken (fun _ s => s.nilrow 80 (encCell).size) ?_
  refine WP.loop (fun m1 g' S' => ∃ (i1 : Int) (l1 : (List Bool)) (ao3 : _) (cap3 : _) (xs2 : _) (l2 : (List Cell)) (ao4 : _) (cap4 : _) (xs3 : _) (l3 : (List Cell)) (ao5 : _) (cap5 : _) (xs4 : _) (l4 : (List Cell)) (ao6 : _) (cap6 : _) (xs5 : _) (l5 : (List Cell)) (ao7 : _) (cap7 : _) (xs6 : _), RL H encBool l1 xs2 ∧ RL H encCell l2 xs3 ∧ RL H encCell l3 xs4 ∧ RL H encCell l4 xs5 ∧ RL H encCell l5 xs6 ∧ Sub [(1, (pB b1 0)), (3, (.slice (some ⟨b2, 0, none⟩) 4 4)), (4, (.slice ao3 l1.length cap3)), (20, (.slice ao1 p_s.steps.length cap1)), (21, (.int .i64 (p_s.steps.length : Int))), (22, (.int .i64 i1)), (1000000007, (.bool false))] g' ∧ (∀ w', S' w' → St w H [rowE 80 encCell l5 ao7 cap7 xs6, rowE 80 encCell l4 ao6 cap6 xs5, rowE 80 encCell l3 ao5 cap5 xs4, rowE 80 encCell l2 ao4 cap4 xs3, rowE 4 encBool l1 ao3 cap3 xs2, .blk b2 78 [(.slice ao4 l2.length cap4), (.slice ao5 l3.length cap5), (.slice ao6 l4.length cap6), (.slice ao7 l5.length cap7)], .blk b1 24 [(.int .i64 p_s.actuators), (.slice ao1 p_s.steps.length cap1)]] H w') ∧ diagram_cells4_loop1 p_s k1 m1 i1 l1 l2 l3 l4 l5 = some r) ((Int.toNat ((p_s.steps.length : Int) - 0) + 1)) ⟨0, (List.replicate (Int.toNat p_s.actuators) false), (some ⟨b3, 0, none⟩), (Int.toNat p_s.actuators), xs1, ([] : List Cell), none, 0, [], ([] : List Cell), none, 0, [], ([] : List Cell), none, 0, [], ([] : List Cell), none, 0, [], rl1, rl2, rl3, rl4, rl5, (Sub.all rfl), fun w' s => s, hm⟩ ?_ ?_
  ·
   rintro g' S' ⟨_, _, _, _, _, _, _, _, _, _, _, _, _, _, _, _, _, _, _, _, _, _, _, _, _, _, _, _, hm⟩
   exact none_some hm
  rintro m1 g' S' ⟨i1, l1, ao3, cap3, xs2, l2, ao4, cap4, xs3, l3, ao5, cap5, xs4, l4, ao6, cap6, xs5, l5, ao7, cap7, xs6, rl6, rl7, rl8, rl9, rl10, hsub1, hS1, hm⟩
  refine WP.sub hsub1 (WP.weaken hS1 ?_)
  rw [diagram_cells4_loop1] at hm
  refine WP.seq (WP.region (V rfl (ov_lss rfl rfl rfl) (WL.nil (tn (WP.seq ?_)))))
  refine WP.cond rfl (fun hc3 => ?_) (fun hc3 => ?_)
  ·
   replace hm := ite_t hc3 hm
   refine WP.skip (tn ?_)
   obtain ⟨k2, hk2, hm⟩ := joinK_some hm
   refine WP.seq_join (fun g' S' => ∃ (l20 : (List Bool)) (ao23 : _) (cap23 : _) (xs18 : _) (l21 : (List Cell)) (ao24 : _) (cap24 : _) (xs19 : _) (l22 : (List Cell)) (ao25 : _) (cap25 : _) (xs20 : _) (l23 : (List Cell)) (ao26 : _) (cap26 : _) (xs21 : _) (l24 : (List Cell)) (ao27 : _) (cap27 : _) (xs22 : _), RL H encBool l20 xs18 ∧ RL H encCell l21 xs19 ∧ RL H encCell l22 xs20 ∧ RL H encCell l23 xs21 ∧ RL H encCell l24 xs22 ∧ Sub [(1, (pB b1 0)), (3, (.slice (some ⟨b2, 0, none⟩) 4 4)), (4, (.slice ao23 l20.length cap23)), (20, (.slice ao1 p_s.steps.length cap1)), (21, (.int .i64 (p_s.steps.length : Int))), (22, (.int .i64 i1)), (1000000007, (.bool false))] g' ∧ (∀ w', S' w' → St w H [rowE 80 encCell l24 ao27 cap27 xs22, rowE 80 encCell l23 ao26 cap26 xs21, rowE 80 encCell l22 ao25 cap25 xs20, rowE 80 encCell l21 ao24 cap24 xs19, rowE 4 encBool l20 ao23 cap23 xs18, .blk b2 78 [(.slice ao24 l21.length cap24), (.slice ao25 l22.length cap25), (.slice ao26 l23.length cap26), (.slice ao27 l24.length cap27)], .blk b1 24 [(.int .i64 p_s.actuators), (.slice ao1 p_s.steps.length cap1)]] H w') ∧ k2 l20 l21 l22 l23 l24 = some r) ?_ ?_
   ·
    refine WP.block (WP.seq (WP.region ?_))
    obtain ⟨x1, e2, hm⟩ := bind_some hm
    obtain ⟨h4, h5, h6, cs1, h7, h8⟩ := h1.get e2 (by decide)
    obtain ⟨ao8, cap8, rfl, h3, hc4⟩ := h7
    refine V rfl (ov_indexAddr underlying22 sizeOf45 rfl rfl rfl h4 h5 h6) (V rfl (ov_load_elems (vs := [(.slice ao8 x1.strokes.length cap8), (.int .i64 x1.wait)]) isAgg45 sizeOf45 rfl rfl rfl h8 h6) ?_)
    refine ws rfl (os_alloc (cs := [(.slice none 0 0), (.int .i64 0)]) zeroValue45 rfl rfl (fun b4 => ?_))
    refine ws0 rfl (os_store (i := 0) (vs := [(.slice ao8 x1.strokes.length cap8), (.int .i64 x1.wait)]) (cs' := [(.slice ao8 x1.strokes.length cap8), (.int .i64 x1.wait)]) sizeOf45 rfl rfl rfl rfl rfl rfl rfl rfl rfl ?_)
    refine WL.nil (tn (WP.seq (WP.region (V rfl (ov_fieldAddr underlying24 rfl rfl rfl sizeOf3 rfl rfl) (Vl 7 isAgg3 rfl ?_)))))
    obtain ⟨u2, e3, hm⟩ := bind_some hm
    replace e3 := guardO_some e3
    refine ws rfl (os_makeSlice (En := encCell) (z := (.agg #[(.int .u8 0), (.int .u8 0)])) (y0 := (Cell.mk 0 0)) (bytes := 2) underlying78 (by kernel_rfl) rfl (by decide) rfl rfl rfl e3 (fun b5 xs7 rl11 => ?_))
    refine Va rfl (WL.nil (tn ?_))
    obtain ⟨k3, hk3, hm⟩ := joinK_some hm
    refine WP.seq_join (fun g' S' => ∃ (l7 : (List Cell)) (ao10 : _) (cap10 : _) (xs9 : _), RL H encCell l7 xs9 ∧ Sub [(1, (pB b1 0)), (3, (.slice (some ⟨b2, 0, none⟩) 4 4)), (4, (.slice ao3 l1.length cap3)), (6, (pB b4 0)), (7, (.slice ao10 l7.length cap10)), (20, (.slice ao1 p_s.steps.length cap1)), (21, (.int .i64 (p_s.steps.length : Int))), (22, (.int .i64 i1)), (1000000007, (.bool false))] g' ∧ (∀ w', S' w' → St w H [rowE 80 encCell l7 ao10 cap10 xs9, .blk b4 45 [(.slice ao8 x1.strokes.length cap8), (.int .i64 x1.wait)], rowE 80 encCell l5 ao7 cap7 xs6, rowE 80 encCell l4 ao6 cap6 xs5, rowE 80 encCell l3 ao5 cap5 xs4, rowE 80 encCell l2 ao4 cap4 xs3, rowE 4 encBool l1 ao3 cap3 xs2, .blk b2 78 [(.slice ao4 l2.length cap4), (.slice ao5 l3.length cap5), (.slice ao6 l4.length cap6), (.slice ao7 l5.length cap7)], .blk b1 24 [(.int .i64 p_s.actuators), (.slice ao1 p_s.steps.length cap1)]] H w') ∧ k3 l7 = some r) ?_ ?_
    ·
     refine WP.seq (WP.region (Vm rfl (V rfl (ov_len_slice underlying49 rfl rfl) (Vm rfl (WL.nil (tn (WP.block ?_)))))))
     refine WP.loop (fun m2 g' S' => ∃ (i2 : Int) (l6 : (List Cell)) (ao9 : _) (cap9 : _) (xs8 : _), RL H encCell l6 xs8 ∧ Sub [(1, (pB b1 0)), (3, (.slice (some ⟨b2, 0, none⟩) 4 4)), (4, (.slice ao3 l1.length cap3)), (6, (pB b4 0)), (7, (.slice ao9 l6.length cap9)), (20, (.slice ao1 p_s.steps.length cap1)), (21, (.int .i64 (p_s.steps.length : Int))), (22, (.int .i64 i1)), (29, (.slice ao3 l1.length cap3)), (30, (.int .i64 (l1.length : Int))), (31, (.int .i64 i2)), (1000000007, (.bool false))] g' ∧ (∀ w', S' w' → St w H [rowE 80 encCell l6 ao9 cap9 xs8, .blk b4 45 [(.slice ao8 x1.strokes.length cap8), (.int .i64 x1.wait)], rowE 80 encCell l5 ao7 cap7 xs6, rowE 80 encCell l4 ao6 cap6 xs5, rowE 80 encCell l3 ao5 cap5 xs4, rowE 80 encCell l2 ao4 cap4 xs3, rowE 4 encBool l1 ao3 cap3 xs2, .blk b2 78 [(.slice ao4 l2.length cap4), (.slice ao5 l3.length cap5), (.slice ao6 l4.length cap6), (.slice ao7 l5.length cap7)], .blk b1 24 [(.int .i64 p_s.actuators), (.slice ao1 p_s.steps.length cap1)]] H w') ∧ diagram_cells1_loop2 l1 k3 m2 i2 l6 = some r) ((Int.toNat ((l1.length : Int) - 0) + 1)) ⟨0, (List.replicate (Int.toNat p_s.actuators) (Cell.mk 0 0)), (some ⟨b5, 0, none⟩), (Int.toNat p_s.actuators), xs7, rl11, (Sub.all rfl), fun w' s => s, hm⟩ ?_ ?_
     ·
      rintro g' S' ⟨_, _, _, _, _, _, _, _, hm⟩
      exact none_some hm
     rintro m2 g' S' ⟨i2, l6, ao9, cap9, xs8, rl12, hsub2, hS2, hm⟩
     refine WP.sub hsub2 (WP.weaken hS2 ?_)
     rw [diagram_cells1_loop2] at hm
     refine WP.seq (WP.region (V rfl (ov_lss rfl rfl rfl) (WL.nil (tn (WP.seq ?_)))))
     refine WP.cond rfl (fun hc5 => ?_) (fun hc5 => ?_)
     ·
      replace hm := ite_t hc5 hm
      refine WP.skip (tn (WP.seq (WP.block (WP.seq (WP.region (Vm rfl ?_))))))
      obtain ⟨x2, e4, hm⟩ := bind_some hm
      obtain ⟨h9, h10, h11, cs2, h12, h13⟩ := RL.get rl6 e4
      obtain rfl : cs2 = [(.bool x2)] := h12
      refine V rfl (ov_indexAddr_own (i := 6) underlying49 sizeOf4 rfl rfl rfl rfl h9 h10) (V rfl (ov_load_own (i := 6) isAgg4 rfl rfl rfl (own_pos h9 h10) (elem_cell h13 (off := 0) rfl)) (Va rfl (Va rfl (WL.nil (tn ?_)))))
      refine WP.region_any (S₀ := St w H [.blk b4 45 [(.slice ao8 x1.strokes.length cap8), (.int .i64 x1.wait)], rowE 80 encCell l5 ao7 cap7 xs6, rowE 80 encCell l4 ao6 cap6 xs5, rowE 80 encCell l3 ao5 cap5 xs4, rowE 80 encCell l2 ao4 cap4 xs3, rowE 4 encBool l1 ao3 cap3 xs2, .blk b2 78 [(.slice ao4 l2.length cap4), (.slice ao5 l3.length cap5), (.slice ao6 l4.length cap6), (.slice ao7 l5.length cap7)], .blk b1 24 [(.int .i64 p_s.actuators), (.slice ao1 p_s.steps.length cap1)]] H) 13 rfl (by kernel_rfl) (fun w' s => (s.sl [1, 2, 3, 4, 5, 6, 7, 8])) (fun _ s => s.drew) ?_
      refine TQ' 0 rfl (ov_move rfl rfl) (TQ' 1 rfl (ov_move rfl rfl) (TQ' 2 rfl (ov_move rfl rfl) (TQ' 6 rfl (ov_move rfl rfl) ?_)))
      refine AL.any (rs := [3]) (by kernel_rfl) (by decide) ?_
      refine ALs.cons (i := 3) rfl (Runs.free rfl) rfl rfl ?_ ?_
      ·
       obtain ⟨r1, e5, hm⟩ := bind_some hm
       refine OQ.step (oq_con (r := (.int .i64 r1)) call87 rfl rfl (fun w' s => ⟨_, (diagram_index_con x2  w' H s.hold hG r1 e5)⟩)) ?_
       refine ⟨fun w' s => (s.sl [1, 2, 3, 4, 5, 6, 7, 8]), ?_⟩
       obtain ⟨x3, e6, hm⟩ := bind_some hm
       obtain ⟨h14, h15, h16, cs3, h17, h18⟩ := hG.1.1.1.get e6 (by decide)
       obtain rfl : cs3 = [(.int .u8 x3)] := h17
       refine TQ' 4 rfl (ov_indexAddr_globL rfl underlying84 sizeOf5 rfl rfl rfl h14 h15) (TQ' 5 rfl (ov_load_elem (v := (.int .u8 x3)) isAgg5 rfl rfl h18) ?_)
       refine AL.any (rs := [7]) (by kernel_rfl) (by decide) ?_
       refine ALs.cons (i := 7) rfl (Runs.free rfl) rfl rfl ?_ ?_
       ·
        obtain ⟨r2, e7, hm⟩ := bind_some hm
        refine OQ.step (oq_con (r := (.int .i64 r2)) call87 rfl rfl (fun w' s => ⟨_, (diagram_index_con x2  w' H s.hold hG r2 e7)⟩)) ?_
        refine ⟨fun w' s => (s.sl [1, 2, 3, 4, 5, 6, 7, 8]), ?_⟩
        obtain ⟨x4, e8, hm⟩ := bind_some hm
        obtain ⟨h19, h20, h21, cs4, h22, h23⟩ := hG.1.1.1.get e8 (by decide)
        obtain rfl : cs4 = [(.int .u8 x4)] := h22
        refine TQ' 8 rfl (ov_indexAddr_globL rfl underlying84 sizeOf5 rfl rfl rfl h19 h20) (TQ' 9 rfl (ov_load_elem (v := (.int .u8 x4)) isAgg5 rfl rfl h23) (TQ' 10 rfl (ov_build (r := (.agg #[(.int .u8 x3), (.int .u8 x4)])) rfl rfl (fun _ => by kernel_rfl)) ?_))
        refine AL.any (rs := [11]) (by kernel_rfl) (by decide) ?_
        refine ALs.cons (i := 11) rfl (Runs.free rfl) rfl rfl ?_ ?_
        ·
         obtain ⟨x5, e9, hm⟩ := bind_some hm
         obtain ⟨h24, h25, h26, cs5, h27, h28⟩ := RL.get rl12 e9
         obtain rfl : cs5 = [(.int .u8 x5.first), (.int .u8 x5.second)] := h27
         refine OQ.step (OV.quiet (ov_indexAddr_own (i := 0) underlying78 sizeOf80 rfl rfl rfl rfl h24 h25)) ?_
         refine ⟨fun w' s => (s.sl [1, 2, 3, 4, 5, 6, 7, 8]), ?_⟩
         refine AL.any (rs := [12]) (by kernel_rfl) (by decide) ?_
         refine ALs.cons0 (i := 12) rfl (Runs.free rfl) rfl ?_ ?_
         ·
          have rl13 := RL.set rl12 (y := (Cell.mk x3 x4)) (off := 0) (vs := [(.int .u8 x3), (.int .u8 x4)]) e9 h28 rfl (Nat.le_of_ble_eq_true rfl)
          have e10 := at?_set (y := (Cell.mk x3 x4)) e9
          refine os_store_own (i := 0) (vs := [(.int .u8 x3), (.int .u8 x4)]) sizeOf80 rfl rfl rfl rfl (own_pos h24 h25) rfl rfl (elem_le (off := 0) h26 (Nat.le_of_ble_eq_true rfl)) rfl ?_
          rw [show l6.length = (List.set l6 (Int.toNat i2) (Cell.mk x3 x4)).length from List.length_set.symm]
          obtain ⟨h29, h30, h31, cs6, h32, h33⟩ := rl13.get e10
          obtain rfl : cs6 = [(.int .u8 x3), (.int .u8 x4)] := h32
          refine ⟨fun w' s => (s.sl [1, 2, 3, 4, 5, 6, 7, 8]), ?_⟩
          refine AL.done (by kernel_rfl) ?_
          refine bn (tn (WP.region (V rfl (ov_add rfl rfl rfl) (Vm rfl (WL.nil (tn ?_))))))
          exact ⟨(IntKind.wrap .i64 (i2 + 1)), (List.set l6 (Int.toNat i2) (Cell.mk x3 x4)), ao9, cap9, (spl xs8 (Int.toNat i2 * encCell.size + 0) [(.int .u8 x3), (.int .u8 x4)]), rl13, (Sub.all rfl), fun w' s => s, hm⟩
         exact ALs.nil
        exact ALs.nil
       exact ALs.nil
      exact ALs.nil
     replace hm := ite_f hc5 hm
     refine WP.exit (then_exit (then_exit (block_here (tn ?_))))
     exact ⟨l6, ao9, cap9, xs8, rl12, (Sub.all rfl), fun w' s => s, hm⟩
    rintro g' S' ⟨l7, ao10, cap10, xs9, rl14, hsub3, hS3, hm⟩
    refine WP.sub hsub3 (WP.weaken hS3 ?_)
    replace hm := (congrFun hk3 l7).symm.trans hm
    obtain ⟨k4, hk4, hm⟩ := joinK_some hm
    refine WP.seq_join (fun g' S' => ∃ (l10 : (List Bool)) (ao13 : _) (cap13 : _) (xs12 : _) (l11 : (List Cell)) (ao14 : _) (cap14 : _) (xs13 : _), RL H encBool l10 xs12 ∧ RL H encCell l11 xs13 ∧ Sub [(1, (pB b1 0)), (3, (.slice (some ⟨b2, 0, none⟩) 4 4)), (4, (.slice ao13 l10.length cap13)), (7, (.slice ao14 l11.length cap14)), (20, (.slice ao1 p_s.steps.length cap1)), (21, (.int .i64 (p_s.steps.length : Int))), (22, (.int .i64 i1)), (1000000007, (.bool false))] g' ∧ (∀ w', S' w' → St w H [rowE 80 encCell l11 ao14 cap14 xs13, rowE 80 encCell l5 ao7 cap7 xs6, rowE 80 encCell l4 ao6 cap6 xs5, rowE 80 encCell l3 ao5 cap5 xs4, rowE 80 encCell l2 ao4 cap4 xs3, rowE 4 encBool l10 ao13 cap13 xs12, .blk b2 78 [(.slice ao4 l2.length cap4), (.slice ao5 l3.length cap5), (.slice ao6 l4.length cap6), (.slice ao7 l5.length cap7)], .blk b1 24 [(.int .i64 p_s.actuators), (.slice ao1 p_s.steps.length cap1)]] H w') ∧ k4 l10 l11 = some r) ?_ ?_
    ·
     refine WP.seq (WP.region (V rfl (ov_fieldAddr underlying45 rfl rfl rfl sizeOf43 rfl rfl) (Vl 1 isAgg43 rfl (V rfl (ov_len_slice underlying43 rfl rfl) (Vm rfl (WL.nil (tn (WP.block ?_))))))))
     refine WP.loop (fun m3 g' S' => ∃ (i3 : Int) (l8 : (List Bool)) (ao11 : _) (cap11 : _) (xs10 : _) (l9 : (List Cell)) (ao12 : _) (cap12 : _) (xs11 : _), RL H encBool l8 xs10 ∧ RL H encCell l9 xs11 ∧ Sub [(1, (pB b1 0)), (3, (.slice (some ⟨b2, 0, none⟩) 4 4)), (4, (.slice ao11 l8.length cap11)), (7, (.slice ao12 l9.length cap12)), (20, (.slice ao1 p_s.steps.length cap1)), (21, (.int .i64 (p_s.steps.length : Int))), (22, (.int .i64 i1)), (50, (.slice ao8 x1.strokes.length cap8)), (51, (.int .i64 (x1.strokes.length : Int))), (52, (.int .i64 i3)), (1000000007, (.bool false))] g' ∧ (∀ w', S' w' → St w H [rowE 80 encCell l9 ao12 cap12 xs11, rowE 80 encCell l5 ao7 cap7 xs6, rowE 80 encCell l4 ao6 cap6 xs5, rowE 80 encCell l3 ao5 cap5 xs4, rowE 80 encCell l2 ao4 cap4 xs3, rowE 4 encBool l8 ao11 cap11 xs10, .blk b2 78 [(.slice ao4 l2.length cap4), (.slice ao5 l3.length cap5), (.slice ao6 l4.length cap6), (.slice ao7 l5.length cap7)], .blk b1 24 [(.int .i64 p_s.actuators), (.slice ao1 p_s.steps.length cap1)]] H w') ∧ diagram_cells1_loop3 x1 k4 m3 i3 l8 l9 = some r) ((Int.toNat ((x1.strokes.length : Int) - 0) + 1)) ⟨0, l1, ao3, cap3, xs2, l7, ao10, cap10, xs9, rl6, rl14, (Sub.all rfl), fun w' s => (s.sl [0, 2, 3, 4, 5, 6, 7, 8]), hm⟩ ?_ ?_
     ·
      rintro g' S' ⟨_, _, _, _, _, _, _, _, _, _, _, _, _, hm⟩
      exact none_some hm
     rintro m3 g' S' ⟨i3, l8, ao11, cap11, xs10, l9, ao12, cap12, xs11, rl15, rl16, hsub4, hS4, hm⟩
     refine WP.sub hsub4 (WP.weaken hS4 ?_)
     rw [diagram_cells1_loop3] at hm
     refine WP.seq (WP.region (V rfl (ov_lss rfl rfl rfl) (WL.nil (tn (WP.seq ?_)))))
     refine WP.cond rfl (fun hc6 => ?_) (fun hc6 => ?_)
     ·
      replace hm := ite_t hc6 hm
      refine WP.skip (tn (WP.seq (WP.block (WP.seq (WP.region ?_)))))
      obtain ⟨x6, e11, hm⟩ := bind_some hm
      obtain ⟨h34, h35, h36, cs7, h37, h38⟩ := h3.get e11 (by decide)
      obtain rfl : cs7 = [(.int .i64 x6.actuator), (.bool x6.out)] := h37
      refine V rfl (ov_indexAddr underlying43 sizeOf48 rfl rfl rfl h34 h35 h36) (V rfl (ov_load_elems (vs := [(.int .i64 x6.actuator), (.bool x6.out)]) isAgg48 sizeOf48 rfl rfl rfl h38 h36) ?_)
      refine ws rfl (os_alloc (cs := [(.int .i64 0), (.bool false)]) zeroValue48 rfl rfl (fun b6 => ?_))
      refine ws0 rfl (os_store (i := 0) (vs := [(.int .i64 x6.actuator), (.bool x6.out)]) (cs' := [(.int .i64 x6.actuator), (.bool x6.out)]) sizeOf48 rfl rfl rfl rfl rfl rfl rfl rfl rfl ?_)
      refine WL.nil (tn (WP.seq (WP.region (Vm rfl (V rfl (ov_fieldAddr underlying48 rfl rfl rfl sizeOf3 rfl rfl) (Vl 0 isAgg3 rfl (V rfl (ov_fieldAddr underlying48 rfl rfl rfl sizeOf4 rfl rfl) (Vl 0 isAgg4 rfl ?_))))))))
      obtain ⟨x7, e12, hm⟩ := bind_some hm
      obtain ⟨h39, h40, h41, cs8, h42, h43⟩ := RL.get rl15 e12
      obtain rfl : cs8 = [(.bool x7)] := h42
      refine V rfl (ov_indexAddr_own (i := 6) underlying49 sizeOf4 rfl rfl rfl rfl h39 h40) ?_
      have rl17 := RL.set rl15 (y := x6.out) (off := 0) (vs := [(.bool x6.out)]) e12 h43 rfl (Nat.le_of_ble_eq_true rfl)
      have e13 := at?_set (y := x6.out) e12
      refine ws0 rfl (os_store_own (i := 6) (vs := [(.bool x6.out)]) sizeOf4 rfl rfl rfl rfl (own_pos h39 h40) rfl rfl (elem_le (off := 0) h41 (Nat.le_of_ble_eq_true rfl)) rfl ?_)
      rw [show l8.length = (List.set l8 (Int.toNat x6.actuator) x6.out).length from List.length_set.symm]
      obtain ⟨h44, h45, h46, cs9, h47, h48⟩ := rl17.get e13
      obtain rfl : cs9 = [(.bool x6.out)] := h47
      refine WL.nil (tn ?_)
      refine WP.region_any (S₀ := St w H [.blk b6 48 [(.int .i64 x6.actuator), (.bool x6.out)], rowE 80 encCell l5 ao7 cap7 xs6, rowE 80 encCell l4 ao6 cap6 xs5, rowE 80 encCell l3 ao5 cap5 xs4, rowE 80 encCell l2 ao4 cap4 xs3, .row 4 (encBool).size (List.set l8 (Int.toNat x6.actuator) x6.out).length (.slice ao11 (List.set l8 (Int.toNat x6.actuator) x6.out).length cap11) (spl xs10 (Int.toNat x6.actuator * encBool.size + 0) [(.bool x6.out)]), .blk b2 78 [(.slice ao4 l2.length cap4), (.slice ao5 l3.length cap5), (.slice ao6 l4.length cap6), (.slice ao7 l5.length cap7)], .blk b1 24 [(.int .i64 p_s.actuators), (.slice ao1 p_s.steps.length cap1)]] H) 16 rfl (by kernel_rfl) (fun w' s => (s.sl [0, 2, 3, 4, 5, 6, 7, 8])) (fun _ s => s.drew) ?_
      refine TQ' 0 rfl (ov_move rfl rfl) (TQ' 1 rfl (ov_fieldAddr underlying48 rfl rfl rfl sizeOf3 rfl rfl) (TQ' 2 rfl (ov_load_box (i := 0) isAgg3 rfl rfl rfl rfl) (TQ' 3 rfl (ov_fieldAddr underlying48 rfl rfl rfl sizeOf4 rfl rfl) (TQ' 4 rfl (ov_load_box (i := 0) isAgg4 rfl rfl rfl rfl) (TQ' 8 rfl (ov_fieldAddr underlying48 rfl rfl rfl sizeOf4 rfl rfl) (TQ' 9 rfl (ov_load_box (i := 0) isAgg4 rfl rfl rfl rfl) ?_))))))
      refine AL.any (rs := [5]) (by kernel_rfl) (by decide) ?_
      refine ALs.cons (i := 5) rfl (Runs.free rfl) rfl rfl ?_ ?_
      ·
       obtain ⟨r3, e14, hm⟩ := bind_some hm
       refine OQ.step (oq_con (r := (.int .i64 r3)) call87 rfl rfl (fun w' s => ⟨_, (diagram_index_con x6.out  w' H s.hold hG r3 e14)⟩)) ?_
       refine ⟨fun w' s => (s.sl [0, 2, 3, 4, 5, 6, 7, 8]), ?_⟩
       obtain ⟨x8, e15, hm⟩ := bind_some hm
       obtain ⟨h49, h50, h51, cs10, h52, h53⟩ := hG.1.1.2.get e15 (by decide)
       obtain rfl : cs10 = [(.int .u8 x8)] := h52
       refine TQ' 6 rfl (ov_indexAddr_globL rfl underlying84 sizeOf5 rfl rfl rfl h49 h50) (TQ' 7 rfl (ov_load_elem (v := (.int .u8 x8)) isAgg5 rfl rfl h53) ?_)
       refine AL.any (rs := [10]) (by kernel_rfl) (by decide) ?_
       refine ALs.cons (i := 10) rfl (Runs.free rfl) rfl rfl ?_ ?_
       ·
        obtain ⟨r4, e16, hm⟩ := bind_some hm
        refine OQ.step (oq_con (r := (.int .i64 r4)) call87 rfl rfl (fun w' s => ⟨_, (diagram_index_con x6.out  w' H s.hold hG r4 e16)⟩)) ?_
        refine ⟨fun w' s => (s.sl [0, 2, 3, 4, 5, 6, 7, 8]), ?_⟩
        obtain ⟨x9, e17, hm⟩ := bind_some hm
        obtain ⟨h54, h55, h56, cs11, h57, h58⟩ := hG.1.1.1.get e17 (by decide)
        obtain rfl : cs11 = [(.int .u8 x9)] := h57
        refine TQ' 11 rfl (ov_indexAddr_globL rfl underlying84 sizeOf5 rfl rfl rfl h54 h55) (TQ' 12 rfl (ov_load_elem (v := (.int .u8 x9)) isAgg5 rfl rfl h58) (TQ' 13 rfl (ov_build (r := (.agg #[(.int .u8 x8), (.int .u8 x9)])) rfl rfl (fun _ => by kernel_rfl)) ?_))
        refine AL.any (rs := [14]) (by kernel_rfl) (by decide) ?_
        refine ALs.cons (i := 14) rfl (Runs.free rfl) rfl rfl ?_ ?_
        ·
         obtain ⟨x10, e18, hm⟩ := bind_some hm
         obtain ⟨h59, h60, h61, cs12, h62, h63⟩ := RL.get rl16 e18
         obtain rfl : cs12 = [(.int .u8 x10.first), (.int .u8 x10.second)] := h62
         refine OQ.step (OV.quiet (ov_indexAddr_own (i := 1) underlying78 sizeOf80 rfl rfl rfl rfl h59 h60)) ?_
         refine ⟨fun w' s => (s.sl [0, 2, 3, 4, 5, 6, 7, 8]), ?_⟩
         refine AL.any (rs := [15]) (by kernel_rfl) (by decide) ?_
         refine ALs.cons0 (i := 15) rfl (Runs.free rfl) rfl ?_ ?_
         ·
          have rl18 := RL.set rl16 (y := (Cell.mk x8 x9)) (off := 0) (vs := [(.int .u8 x8), (.int .u8 x9)]) e18 h63 rfl (Nat.le_of_ble_eq_true rfl)
          have e19 := at?_set (y := (Cell.mk x8 x9)) e18
          refine os_store_own (i := 1) (vs := [(.int .u8 x8), (.int .u8 x9)]) sizeOf80 rfl rfl rfl rfl (own_pos h59 h60) rfl rfl (elem_le (off := 0) h61 (Nat.le_of_ble_eq_true rfl)) rfl ?_
          rw [show l9.length = (List.set l9 (Int.toNat x6.actuator) (Cell.mk x8 x9)).length from List.length_set.symm]
          obtain ⟨h64, h65, h66, cs13, h67, h68⟩ := rl18.get e19
          obtain rfl : cs13 = [(.int .u8 x8), (.int .u8 x9)] := h67
          refine ⟨fun w' s => (s.sl [0, 2, 3, 4, 5, 6, 7, 8]), ?_⟩
          refine AL.done (by kernel_rfl) ?_
          refine bn (tn (WP.region (V rfl (ov_add rfl rfl rfl) (Vm rfl (WL.nil (tn ?_))))))
          exact ⟨(IntKind.wrap .i64 (i3 + 1)), (List.set l8 (Int.toNat x6.actuator) x6.out), ao11, cap11, (spl xs10 (Int.toNat x6.actuator * encBool.size + 0) [(.bool x6.out)]), (List.set l9 (Int.toNat x6.actuator) (Cell.mk x8 x9)), ao12, cap12, (spl xs11 (Int.toNat x6.actuator * encCell.size + 0) [(.int .u8 x8), (.int .u8 x9)]), rl17, rl18, (Sub.all rfl), fun w' s => (s.sl [1, 2, 3, 4, 5, 6, 7, 8]), hm⟩
         exact ALs.nil
        exact ALs.nil
       exact ALs.nil
      exact ALs.nil
     replace hm := ite_f hc6 hm
     refine WP.exit (then_exit (then_exit (block_here (tn ?_))))
     exact ⟨l8, ao11, cap11, xs10, l9, ao12, cap12, xs11, rl15, rl16, (Sub.all rfl), fun w' s => s, hm⟩
    rintro g' S' ⟨l10, ao13, cap13, xs12, l11, ao14, cap14, xs13, rl19, rl20, hsub5, hS5, hm⟩
    refine WP.sub hsub5 (WP.weaken hS5 ?_)
    replace hm := (congrFun (congrFun hk4 l10) l11).symm.trans hm
    refine WP.seq (WP.region (Vm rfl (V rfl (ov_len_slice underlying76 rfl rfl) (Vm rfl (WL.nil (tn (WP.block ?_)))))))
    refine WP.loop (fun m4 g' S' => ∃ (i4 : Int) (l12 : (List Cell)) (ao15 : _) (cap15 : _) (xs14 : _) (l13 : (List Cell)) (ao16 : _) (cap16 : _) (xs15 : _) (l14 : (List Cell)) (ao17 : _) (cap17 : _) (xs16 : _) (l15 : (List Cell)) (ao18 : _) (cap18 : _) (xs17 : _), RL H encCell l12 xs14 ∧ RL H encCell l13 xs15 ∧ RL H encCell l14 xs16 ∧ RL H encCell l15 xs17 ∧ Sub [(1, (pB b1 0)), (3, (.slice (some ⟨b2, 0, none⟩) 4 4)), (4, (.slice ao13 l10.length cap13)), (7, (.slice ao14 l11.length cap14)), (20, (.slice ao1 p_s.steps.length cap1)), (21, (.int .i64 (p_s.steps.length : Int))), (22, (.int .i64 i1)), (79, (.int .i64 4)), (80, (.int .i64 i4)), (1000000007, (.bool false))] g' ∧ (∀ w', S' w' → St w H [rowE 80 encCell l11 ao14 cap14 xs13, rowE 80 encCell l15 ao18 cap18 xs17, rowE 80 encCell l14 ao17 cap17 xs16, rowE 80 encCell l13 ao16 cap16 xs15, rowE 80 encCell l12 ao15 cap15 xs14, rowE 4 encBool l10 ao13 cap13 xs12, .blk b2 78 [(.slice ao15 l12.length cap15), (.slice ao16 l13.length cap16), (.slice ao17 l14.length cap17), (.slice ao18 l15.length cap18)], .blk b1 24 [(.int .i64 p_s.actuators), (.slice ao1 p_s.steps.length cap1)]] H w') ∧ diagram_cells4_loop4 k2 l11 l10 m4 i4 l12 l13 l14 l15 = some r) ((Int.toNat (4 - 0) + 1)) ⟨0, l2, ao4, cap4, xs3, l3, ao5, cap5, xs4, l4, ao6, cap6, xs5, l5, ao7, cap7, xs6, rl7, rl8, rl9, rl10, (Sub.all rfl), fun w' s => s, hm⟩ ?_ ?_
    ·
     rintro g' S' ⟨_, _, _, _, _, _, _, _, _, _, _, _, _, _, _, _, _, _, _, _, _, _, _, hm⟩
     exact none_some hm
    rintro m4 g' S' ⟨i4, l12, ao15, cap15, xs14, l13, ao16, cap16, xs15, l14, ao17, cap17, xs16, l15, ao18, cap18, xs17, rl21, rl22, rl23, rl24, hsub6, hS6, hm⟩
    refine WP.sub hsub6 (WP.weaken hS6 ?_)
    rw [diagram_cells4_loop4] at hm
    refine WP.seq (WP.region (V rfl (ov_lss rfl rfl rfl) (WL.nil (tn (WP.seq ?_)))))
    refine WP.cond rfl (fun hc7 => ?_) (fun hc7 => ?_)
    ·
     replace hm := ite_t hc7 hm
     refine WP.skip (tn (WP.seq (WP.block (WP.seq (WP.region (Vm rfl (Va rfl (WL.nil (tn ?_)))))))))
     refine WP.region_any (S₀ := St w H [rowE 80 encCell l11 ao14 cap14 xs13, rowE 4 encBool l10 ao13 cap13 xs12, .blk b1 24 [(.int .i64 p_s.actuators), (.slice ao1 p_s.steps.length cap1)]] H) 14 rfl (by kernel_rfl) (fun w' s => (s.sl [0, 5, 7])) (fun _ s => s.drew) ?_
     refine TQ' 0 rfl (ov_move rfl rfl) (TQ' 1 rfl (ov_move rfl rfl) (TQ' 2 rfl (ov_move rfl rfl) (TQ' 3 rfl (ov_move rfl rfl) ?_)))
     rcases Bool.eq_false_or_eq_true (i4 == 0) with hc8 | hc8
     ·
      replace hm := ite_t hc8 hm
      refine TQ' 4 rfl (ov_indexAddr_bsl (j := 0) underlying76 sizeOf78 rfl rfl rfl (eq_of_beq hc8) rfl) (TQ' 6 rfl (ov_move rfl rfl) (TQ' 7 rfl (ov_move rfl rfl) ?_))
      obtain ⟨x11, e20, hm⟩ := bind_some hm
      obtain ⟨h69, h70, h71, cs14, h72, h73⟩ := RL.get rl20 e20
      obtain rfl : cs14 = [(.int .u8 x11.first), (.int .u8 x11.second)] := h72
      refine TQ' 8 rfl (ov_indexAddr_own (i := 0) underlying78 sizeOf80 rfl rfl rfl rfl h69 h70) (TQ' 9 rfl (ov_load_owns (i := 0) (vs := [(.int .u8 x11.first), (.int .u8 x11.second)]) isAgg80 sizeOf80 rfl rfl rfl (own_pos h69 h70) rfl (fun j u hu => elem_cell h73 hu)) ?_)
      refine AL.any (rs := [5, 10]) (by kernel_rfl) (by decide) ?_
      refine ALs.cons (i := 5) rfl (Runs.free rfl) rfl rfl ?_ ?_
      ·
       refine OQ.step (OV.quiet (ov_load_box (i := 6) isAgg78 rfl rfl rfl rfl)) ?_
       refine ⟨fun w' s => (s.sl [0, 5, 7]), ?_⟩
       refine AL.any (rs := [10]) (by kernel_rfl) (by decide) ?_
       refine ALs.cons (i := 10) rfl (Runs.free rfl) rfl rfl ?_ ?_
       ·
        have rl25 : RL H encCell ([x11] : List Cell) [(.int .u8 x11.first), (.int .u8 x11.second)] := RL.cons (cs := [(.int .u8 x11.first), (.int .u8 x11.second)]) (xs := []) rfl (RL.nil _ _)
        refine os_buildSlice (cs := [(.int .u8 x11.first), (.int .u8 x11.second)]) (E := 80) (sz := 2) rfl rfl (fun _ => by kernel_rfl) rfl (by decide) (fun b7 => ?_)
        refine ⟨fun w' s => (s.sl [1, 6, 8]), ?_⟩
        refine AL.any (rs := [11]) (by kernel_rfl) (by decide) ?_
        refine ALs.cons (i := 11) rfl (Runs.free rfl) rfl rfl ?_ ?_
        ·
         obtain ⟨l16, e21, hm⟩ := bind_some hm
         refine os_app (i := 5) (j := 0) (En := encCell) (xs := xs14) (ys := [(.int .u8 x11.first), (.int .u8 x11.second)]) underlying78 (by kernel_rfl : (prog.info? 80).map (fun i => (i.zero, i.size, i.bytes)) = some (some (.agg #[(.int .u8 0), (.int .u8 0)]), (encCell).size, 2)) rfl (by decide) rfl rfl rfl rfl rfl rfl rl21 rl25 e21 (fun ao19 cap19 rl26 => ?_)
         refine ⟨fun w' s => (s.sl [1, 6, 8]), ?_⟩
         refine TQ' 12 rfl (ov_indexAddr_bsl (j := 0) underlying76 sizeOf78 rfl rfl rfl (eq_of_beq hc8) rfl) ?_
         refine AL.any (rs := [13]) (by kernel_rfl) (by decide) ?_
         refine ALs.cons0 (i := 13) rfl (Runs.free rfl) rfl ?_ ?_
         ·
          refine os_store (i := 7) (vs := [(.slice ao19 (l12 ++ ([x11] : List Cell)).length cap19)]) (cs' := [(.slice ao19 (l12 ++ ([x11] : List Cell)).length cap19), (.slice ao16 l13.length cap16), (.slice ao17 l14.length cap17), (.slice ao18 l15.length cap18)]) sizeOf78 rfl rfl rfl rfl rfl rfl rfl rfl rfl ?_
          refine ⟨fun w' s => (s.sl [1, 6, 8]), ?_⟩
          refine AL.done (by kernel_rfl) ?_
          refine bn (tn (WP.region (V rfl (ov_add rfl rfl rfl) (Vm rfl (WL.nil (tn ?_))))))
          exact ⟨(IntKind.wrap .i64 (i4 + 1)), (l12 ++ ([x11] : List Cell)), ao19, cap19, (xs14 ++ [(.int .u8 x11.first), (.int .u8 x11.second)]), l13, ao16, cap16, xs15, l14, ao17, cap17, xs16, l15, ao18, cap18, xs17, rl26, rl22, rl23, rl24, (Sub.all rfl), fun w' s => (s.sl [1, 2, 3, 4, 5, 6, 7, 8]), hm⟩
         exact ALs.nil
        exact ALs.nil
       exact ALs.nil
      refine ALs.cons (i := 10) rfl (Runs.free rfl) rfl rfl ?_ ?_
      ·
       have rl25 : RL H encCell ([x11] : List Cell) [(.int .u8 x11.first), (.int .u8 x11.second)] := RL.cons (cs := [(.int .u8 x11.first), (.int .u8 x11.second)]) (xs := []) rfl (RL.nil _ _)
       refine os_buildSlice (cs := [(.int .u8 x11.first), (.int .u8 x11.second)]) (E := 80) (sz := 2) rfl rfl (fun _ => by kernel_rfl) rfl (by decide) (fun b7 => ?_)
       refine ⟨fun w' s => (s.sl [1, 6, 8]), ?_⟩
       refine AL.any (rs := [5]) (by kernel_rfl) (by decide) ?_
       refine ALs.cons (i := 5) rfl (Runs.free rfl) rfl rfl ?_ ?_
       ·
        refine OQ.step (OV.quiet (ov_load_box (i := 7) isAgg78 rfl rfl rfl rfl)) ?_
        refine ⟨fun w' s => (s.sl [1, 6, 8]), ?_⟩
        refine AL.any (rs := [11]) (by kernel_rfl) (by decide) ?_
        refine ALs.cons (i := 11) rfl (Runs.free rfl) rfl rfl ?_ ?_
        ·
         obtain ⟨l16, e21, hm⟩ := bind_some hm
         refine os_app (i := 5) (j := 0) (En := encCell) (xs := xs14) (ys := [(.int .u8 x11.first), (.int .u8 x11.second)]) underlying78 (by kernel_rfl : (prog.info? 80).map (fun i => (i.zero, i.size, i.bytes)) = some (some (.agg #[(.int .u8 0), (.int .u8 0)]), (encCell).size, 2)) rfl (by decide) rfl rfl rfl rfl rfl rfl rl21 rl25 e21 (fun ao19 cap19 rl26 => ?_)
         refine ⟨fun w' s => (s.sl [1, 6, 8]), ?_⟩
         refine TQ' 12 rfl (ov_indexAddr_bsl (j := 0) underlying76 sizeOf78 rfl rfl rfl (eq_of_beq hc8) rfl) ?_
         refine AL.any (rs := [13]) (by kernel_rfl) (by decide) ?_
         refine ALs.cons0 (i := 13) rfl (Runs.free rfl) rfl ?_ ?_
         ·
          refine os_store (i := 7) (vs := [(.slice ao19 (l12 ++ ([x11] : List Cell)).length cap19)]) (cs' := [(.slice ao19 (l12 ++ ([x11] : List Cell)).length cap19), (.slice ao16 l13.length cap16), (.slice ao17 l14.length cap17), (.slice ao18 l15.length cap18)]) sizeOf78 rfl rfl rfl rfl rfl rfl rfl rfl rfl ?_
          refine ⟨fun w' s => (s.sl [1, 6, 8]), ?_⟩
          refine AL.done (by kernel_rfl) ?_
          refine bn (tn (WP.region (V rfl (ov_add rfl rfl rfl) (Vm rfl (WL.nil (tn ?_))))))
          exact ⟨(IntKind.wrap .i64 (i4 + 1)), (l12 ++ ([x11] : List Cell)), ao19, cap19, (xs14 ++ [(.int .u8 x11.first), (.int .u8 x11.second)]), l13, ao16, cap16, xs15, l14, ao17, cap17, xs16, l15, ao18, cap18, xs17, rl26, rl22, rl23, rl24, (Sub.all rfl), fun w' s => (s.sl [1, 2, 3, 4, 5, 6, 7, 8]), hm⟩
         exact ALs.nil
        exact ALs.nil
       exact ALs.nil
      exact ALs.nil
     replace hm := ite_f hc8 hm
     rcases Bool.eq_false_or_eq_true (i4 == 1) with hc9 | hc9
     ·
      replace hm := ite_t hc9 hm
      refine TQ' 4 rfl (ov_indexAddr_bsl (j := 1) underlying76 sizeOf78 rfl rfl rfl (eq_of_beq hc9) rfl) (TQ' 6 rfl (ov_move rfl rfl) (TQ' 7 rfl (ov_move rfl rfl) ?_))
      obtain ⟨x12, e22, hm⟩ := bind_some hm
      obtain ⟨h74, h75, h76, cs15, h77, h78⟩ := RL.get rl20 e22
      obtain rfl : cs15 = [(.int .u8 x12.first), (.int .u8 x12.second)] := h77
      refine TQ' 8 rfl (ov_indexAddr_own (i := 0) underlying78 sizeOf80 rfl rfl rfl rfl h74 h75) (TQ' 9 rfl (ov_load_owns (i := 0) (vs := [(.int .u8 x12.first), (.int .u8 x12.second)]) isAgg80 sizeOf80 rfl rfl rfl (own_pos h74 h75) rfl (fun j u hu => elem_cell h78 hu)) ?_)
      refine AL.any (rs := [5, 10]) (by kernel_rfl) (by decide) ?_
      refine ALs.cons (i := 5) rfl (Runs.free rfl) rfl rfl ?_ ?_
      ·
       refine OQ.step (OV.quiet (ov_load_box (i := 6) isAgg78 rfl rfl rfl rfl)) ?_
       refine ⟨fun w' s => (s.sl [0, 5, 7]), ?_⟩
       refine AL.any (rs := [10]) (by kernel_rfl) (by decide) ?_
       refine ALs.cons (i := 10) rfl (Runs.free rfl) rfl rfl ?_ ?_
       ·
        have rl27 : RL H encCell ([x12] : List Cell) [(.int .u8 x12.first), (.int .u8 x12.second)] := RL.cons (cs := [(.int .u8 x12.first), (.int .u8 x12.second)]) (xs := []) rfl (RL.nil _ _)
        refine os_buildSlice (cs := [(.int .u8 x12.first), (.int .u8 x12.second)]) (E := 80) (sz := 2) rfl rfl (fun _ => by kernel_rfl) rfl (by decide) (fun b8 => ?_)
        refine ⟨fun w' s => (s.sl [1, 6, 8]), ?_⟩
        refine AL.any (rs := [11]) (by kernel_rfl) (by decide) ?_
        refine ALs.cons (i := 11) rfl (Runs.free rfl) rfl rfl ?_ ?_
        ·
         obtain ⟨l17, e23, hm⟩ := bind_some hm
         refine os_app (i := 4) (j := 0) (En := encCell) (xs := xs15) (ys := [(.int .u8 x12.first), (.int .u8 x12.second)]) underlying78 (by kernel_rfl : (prog.info? 80).map (fun i => (i.zero, i.size, i.bytes)) = some (some (.agg #[(.int .u8 0), (.int .u8 0)]), (encCell).size, 2)) rfl (by decide) rfl rfl rfl rfl rfl rfl rl22 rl27 e23 (fun ao20 cap20 rl28 => ?_)
         refine ⟨fun w' s => (s.sl [1, 6, 8]), ?_⟩
         refine TQ' 12 rfl (ov_indexAddr_bsl (j := 1) underlying76 sizeOf78 rfl rfl rfl (eq_of_beq hc9) rfl) ?_
         refine AL.any (rs := [13]) (by kernel_rfl) (by decide) ?_
         refine ALs.cons0 (i := 13) rfl (Runs.free rfl) rfl ?_ ?_
         ·
          refine os_store (i := 7) (vs := [(.slice ao20 (l13 ++ ([x12] : List Cell)).length cap20)]) (cs' := [(.slice ao15 l12.length cap15), (.slice ao20 (l13 ++ ([x12] : List Cell)).length cap20), (.slice ao17 l14.length cap17), (.slice ao18 l15.length cap18)]) sizeOf78 rfl rfl rfl rfl rfl rfl rfl rfl rfl ?_
          refine ⟨fun w' s => (s.sl [1, 6, 8]), ?_⟩
          refine AL.done (by kernel_rfl) ?_
          refine bn (tn (WP.region (V rfl (ov_add rfl rfl rfl) (Vm rfl (WL.nil (tn ?_))))))
          exact ⟨(IntKind.wrap .i64 (i4 + 1)), l12, ao15, cap15, xs14, (l13 ++ ([x12] : List Cell)), ao20, cap20, (xs15 ++ [(.int .u8 x12.first), (.int .u8 x12.second)]), l14, ao17, cap17, xs16, l15, ao18, cap18, xs17, rl21, rl28, rl23, rl24, (Sub.all rfl), fun w' s => (s.sl [1, 2, 3, 4, 5, 6, 7, 8]), hm⟩
         exact ALs.nil
        exact ALs.nil
       exact ALs.nil
      refine ALs.cons (i := 10) rfl (Runs.free rfl) rfl rfl ?_ ?_
      ·
       have rl27 : RL H encCell ([x12] : List Cell) [(.int .u8 x12.first), (.int .u8 x12.second)] := RL.cons (cs := [(.int .u8 x12.first), (.int .u8 x12.second)]) (xs := []) rfl (RL.nil _ _)
       refine os_buildSlice (cs := [(.int .u8 x12.first), (.int .u8 x12.second)]) (E := 80) (sz := 2) rfl rfl (fun _ => by kernel_rfl) rfl (by decide) (fun b8 => ?_)
       refine ⟨fun w' s => (s.sl [1, 6, 8]), ?_⟩
       refine AL.any (rs := [5]) (by kernel_rfl) (by decide) ?_
       refine ALs.cons (i := 5) rfl (Runs.free rfl) rfl rfl ?_ ?_
       ·
        refine OQ.step (OV.quiet (ov_load_box (i := 7) isAgg78 rfl rfl rfl rfl)) ?_
        refine ⟨fun w' s => (s.sl [1, 6, 8]), ?_⟩
        refine AL.any (rs := [11]) (by kernel_rfl) (by decide) ?_
        refine ALs.cons (i := 11) rfl (Runs.free rfl) rfl rfl ?_ ?_
        ·
         obtain ⟨l17, e23, hm⟩ := bind_some hm
         refine os_app (i := 4) (j := 0) (En := encCell) (xs := xs15) (ys := [(.int .u8 x12.first), (.int .u8 x12.second)]) underlying78 (by kernel_rfl : (prog.info? 80).map (fun i => (i.zero, i.size, i.bytes)) = some (some (.agg #[(.int .u8 0), (.int .u8 0)]), (encCell).size, 2)) rfl (by decide) rfl rfl rfl rfl rfl rfl rl22 rl27 e23 (fun ao20 cap20 rl28 => ?_)
         refine ⟨fun w' s => (s.sl [1, 6, 8]), ?_⟩
         refine TQ' 12 rfl (ov_indexAddr_bsl (j := 1) underlying76 sizeOf78 rfl rfl rfl (eq_of_beq hc9) rfl) ?_
         refine AL.any (rs := [13]) (by kernel_rfl) (by decide) ?_
         refine ALs.cons0 (i := 13) rfl (Runs.free rfl) rfl ?_ ?_
         ·
          refine os_store (i := 7) (vs := [(.slice ao20 (l13 ++ ([x12] : List Cell)).length cap20)]) (cs' := [(.slice ao15 l12.length cap15), (.slice ao20 (l13 ++ ([x12] : List Cell)).length cap20), (.slice ao17 l14.length cap17), (.slice ao18 l15.length cap18)]) sizeOf78 rfl rfl rfl rfl rfl rfl rfl rfl rfl ?_
          refine ⟨fun w' s => (s.sl [1, 6, 8]), ?_⟩
          refine AL.done (by kernel_rfl) ?_
          refine bn (tn (WP.region (V rfl (ov_add rfl rfl rfl) (Vm rfl (WL.nil (tn ?_))))))
          exact ⟨(IntKind.wrap .i64 (i4 + 1)), l12, ao15, cap15, xs14, (l13 ++ ([x12] : List Cell)), ao20, cap20, (xs15 ++ [(.int .u8 x12.first), (.int .u8 x12.second)]), l14, ao17, cap17, xs16, l15, ao18, cap18, xs17, rl21, rl28, rl23, rl24, (Sub.all rfl), fun w' s => (s.sl [1, 2, 3, 4, 5, 6, 7, 8]), hm⟩
         exact ALs.nil
        exact ALs.nil
       exact ALs.nil
      exact ALs.nil
     replace hm := ite_f hc9 hm
     rcases Bool.eq_false_or_eq_true (i4 == 2) with hc10 | hc10
     ·
      replace hm := ite_t hc10 hm
      refine TQ' 4 rfl (ov_indexAddr_bsl (j := 2) underlying76 sizeOf78 rfl rfl rfl (eq_of_beq hc10) rfl) (TQ' 6 rfl (ov_move rfl rfl) (TQ' 7 rfl (ov_move rfl rfl) ?_))
      obtain ⟨x13, e24, hm⟩ := bind_some hm
      obtain ⟨h79, h80, h81, cs16, h82, h83⟩ := RL.get rl20 e24
      obtain rfl : cs16 = [(.int .u8 x13.first), (.int .u8 x13.second)] := h82
      refine TQ' 8 rfl (ov_indexAddr_own (i := 0) underlying78 sizeOf80 rfl rfl rfl rfl h79 h80) (TQ' 9 rfl (ov_load_owns (i := 0) (vs := [(.int .u8 x13.first), (.int .u8 x13.second)]) isAgg80 sizeOf80 rfl rfl rfl (own_pos h79 h80) rfl (fun j u hu => elem_cell h83 hu)) ?_)
      refine AL.any (rs := [5, 10]) (by kernel_rfl) (by decide) ?_
      refine ALs.cons (i := 5) rfl (Runs.free rfl) rfl rfl ?_ ?_
      ·
       refine OQ.step (OV.quiet (ov_load_box (i := 6) isAgg78 rfl rfl rfl rfl)) ?_
       refine ⟨fun w' s => (s.sl [0, 5, 7]), ?_⟩
       refine AL.any (rs := [10]) (by kernel_rfl) (by decide) ?_
       refine ALs.cons (i := 10) rfl (Runs.free rfl) rfl rfl ?_ ?_
       ·
        have rl29 : RL H encCell ([x13] : List Cell) [(.int .u8 x13.first), (.int .u8 x13.second)] := RL.cons (cs := [(.int .u8 x13.first), (.int .u8 x13.second)]) (xs := []) rfl (RL.nil _ _)
        refine os_buildSlice (cs := [(.int .u8 x13.first), (.int .u8 x13.second)]) (E := 80) (sz := 2) rfl rfl (fun _ => by kernel_rfl) rfl (by decide) (fun b9 => ?_)
        refine ⟨fun w' s => (s.sl [1, 6, 8]), ?_⟩
        refine AL.any (rs := [11]) (by kernel_rfl) (by decide) ?_
        refine ALs.cons (i := 11) rfl (Runs.free rfl) rfl rfl ?_ ?_
        ·
         obtain ⟨l18, e25, hm⟩ := bind_some hm
         refine os_app (i := 3) (j := 0) (En := encCell) (xs := xs16) (ys := [(.int .u8 x13.first), (.int .u8 x13.second)]) underlying78 (by kernel_rfl : (prog.info? 80).map (fun i => (i.zero, i.size, i.bytes)) = some (some (.agg #[(.int .u8 0), (.int .u8 0)]), (encCell).size, 2)) rfl (by decide) rfl rfl rfl rfl rfl rfl rl23 rl29 e25 (fun ao21 cap21 rl30 => ?_)
         refine ⟨fun w' s => (s.sl [1, 6, 8]), ?_⟩
         refine TQ' 12 rfl (ov_indexAddr_bsl (j := 2) underlying76 sizeOf78 rfl rfl rfl (eq_of_beq hc10) rfl) ?_
         refine AL.any (rs := [13]) (by kernel_rfl) (by decide) ?_
         refine ALs.cons0 (i := 13) rfl (Runs.free rfl) rfl ?_ ?_
         ·
          refine os_store (i := 7) (vs := [(.slice ao21 (l14 ++ ([x13] : List Cell)).length cap21)]) (cs' := [(.slice ao15 l12.length cap15), (.slice ao16 l13.length cap16), (.slice ao21 (l14 ++ ([x13] : List Cell)).length cap21), (.slice ao18 l15.length cap18)]) sizeOf78 rfl rfl rfl rfl rfl rfl rfl rfl rfl ?_
          refine ⟨fun w' s => (s.sl [1, 6, 8]), ?_⟩
          refine AL.done (by kernel_rfl) ?_
          refine bn (tn (WP.region (V rfl (ov_add rfl rfl rfl) (Vm rfl (WL.nil (tn ?_))))))
          exact ⟨(IntKind.wrap .i64 (i4 + 1)), l12, ao15, cap15, xs14, l13, ao16, cap16, xs15, (l14 ++ ([x13] : List Cell)), ao21, cap21, (xs16 ++ [(.int .u8 x13.first), (.int .u8 x13.second)]), l15, ao18, cap18, xs17, rl21, rl22, rl30, rl24, (Sub.all rfl), fun w' s => (s.sl [1, 2, 3, 4, 5, 6, 7, 8]), hm⟩
         exact ALs.nil
        exact ALs.nil
       exact ALs.nil
      refine ALs.cons (i := 10) rfl (Runs.free rfl) rfl rfl ?_ ?_
      ·
       have rl29 : RL H encCell ([x13] : List Cell) [(.int .u8 x13.first), (.int .u8 x13.second)] := RL.cons (cs := [(.int .u8 x13.first), (.int .u8 x13.second)]) (xs := []) rfl (RL.nil _ _)
       refine os_buildSlice (cs := [(.int .u8 x13.first), (.int .u8 x13.second)]) (E := 80) (sz := 2) rfl rfl (fun _ => by kernel_rfl) rfl (by decide) (fun b9 => ?_)
       refine ⟨fun w' s => (s.sl [1, 6, 8]), ?_⟩
       refine AL.any (rs := [5]) (by kernel_rfl) (by decide) ?_
       refine ALs.cons (i := 5) rfl (Runs.free rfl) rfl rfl ?_ ?_
       ·
        refine OQ.step (OV.quiet (ov_load_box (i := 7) isAgg78 rfl rfl rfl rfl)) ?_
        refine ⟨fun w' s => (s.sl [1, 6, 8]), ?_⟩
        refine AL.any (rs := [11]) (by kernel_rfl) (by decide) ?_
        refine ALs.cons (i := 11) rfl (Runs.free rfl) rfl rfl ?_ ?_
        ·
         obtain ⟨l18, e25, hm⟩ := bind_some hm
         refine os_app (i := 3) (j := 0) (En := encCell) (xs := xs16) (ys := [(.int .u8 x13.first), (.int .u8 x13.second)]) underlying78 (by kernel_rfl : (prog.info? 80).map (fun i => (i.zero, i.size, i.bytes)) = some (some (.agg #[(.int .u8 0), (.int .u8 0)]), (encCell).size, 2)) rfl (by decide) rfl rfl rfl rfl rfl rfl rl23 rl29 e25 (fun ao21 cap21 rl30 => ?_)
         refine ⟨fun w' s => (s.sl [1, 6, 8]), ?_⟩
         refine TQ' 12 rfl (ov_indexAddr_bsl (j := 2) underlying76 sizeOf78 rfl rfl rfl (eq_of_beq hc10) rfl) ?_
         refine AL.any (rs := [13]) (by kernel_rfl) (by decide) ?_
         refine ALs.cons0 (i := 13) rfl (Runs.free rfl) rfl ?_ ?_
         ·
          refine os_store (i := 7) (vs := [(.slice ao21 (l14 ++ ([x13] : List Cell)).length cap21)]) (cs' := [(.slice ao15 l12.length cap15), (.slice ao16 l13.length cap16), (.slice ao21 (l14 ++ ([x13] : List Cell)).length cap21), (.slice ao18 l15.length cap18)]) sizeOf78 rfl rfl rfl rfl rfl rfl rfl rfl rfl ?_
          refine ⟨fun w' s => (s.sl [1, 6, 8]), ?_⟩
          refine AL.done (by kernel_rfl) ?_
          refine bn (tn (WP.region (V rfl (ov_add rfl rfl rfl) (Vm rfl (WL.nil (tn ?_))))))
          exact ⟨(IntKind.wrap .i64 (i4 + 1)), l12, ao15, cap15, xs14, l13, ao16, cap16, xs15, (l14 ++ ([x13] : List Cell)), ao21, cap21, (xs16 ++ [(.int .u8 x13.first), (.int .u8 x13.second)]), l15, ao18, cap18, xs17, rl21, rl22, rl30, rl24, (Sub.all rfl), fun w' s => (s.sl [1, 2, 3, 4, 5, 6, 7, 8]), hm⟩
         exact ALs.nil
        exact ALs.nil
       exact ALs.nil
      exact ALs.nil
     replace hm := ite_f hc10 hm
     rcases Bool.eq_false_or_eq_true (i4 == 3) with hc11 | hc11
     ·
      replace hm := ite_t hc11 hm
      refine TQ' 4 rfl (ov_indexAddr_bsl (j := 3) underlying76 sizeOf78 rfl rfl rfl (eq_of_beq hc11) rfl) (TQ' 6 rfl (ov_move rfl rfl) (TQ' 7 rfl (ov_move rfl rfl) ?_))
      obtain ⟨x14, e26, hm⟩ := bind_some hm
      obtain ⟨h84, h85, h86, cs17, h87, h88⟩ := RL.get rl20 e26
      obtain rfl : cs17 = [(.int .u8 x14.first), (.int .u8 x14.second)] := h87
      refine TQ' 8 rfl (ov_indexAddr_own (i := 0) underlying78 sizeOf80 rfl rfl rfl rfl h84 h85) (TQ' 9 rfl (ov_load_owns (i := 0) (vs := [(.int .u8 x14.first), (.int .u8 x14.second)]) isAgg80 sizeOf80 rfl rfl rfl (own_pos h84 h85) rfl (fun j u hu => elem_cell h88 hu)) ?_)
      refine AL.any (rs := [5, 10]) (by kernel_rfl) (by decide) ?_
      refine ALs.cons (i := 5) rfl (Runs.free rfl) rfl rfl ?_ ?_
      ·
       refine OQ.step (OV.quiet (ov_load_box (i := 6) isAgg78 rfl rfl rfl rfl)) ?_
       refine ⟨fun w' s => (s.sl [0, 5, 7]), ?_⟩
       refine AL.any (rs := [10]) (by kernel_rfl) (by decide) ?_
       refine ALs.cons (i := 10) rfl (Runs.free rfl) rfl rfl ?_ ?_
       ·
        have rl31 : RL H encCell ([x14] : List Cell) [(.int .u8 x14.first), (.int .u8 x14.second)] := RL.cons (cs := [(.int .u8 x14.first), (.int .u8 x14.second)]) (xs := []) rfl (RL.nil _ _)
        refine os_buildSlice (cs := [(.int .u8 x14.first), (.int .u8 x14.second)]) (E := 80) (sz := 2) rfl rfl (fun _ => by kernel_rfl) rfl (by decide) (fun b10 => ?_)
        refine ⟨fun w' s => (s.sl [1, 6, 8]), ?_⟩
        refine AL.any (rs := [11]) (by kernel_rfl) (by decide) ?_
        refine ALs.cons (i := 11) rfl (Runs.free rfl) rfl rfl ?_ ?_
        ·
         obtain ⟨l19, e27, hm⟩ := bind_some hm
         refine os_app (i := 2) (j := 0) (En := encCell) (xs := xs17) (ys := [(.int .u8 x14.first), (.int .u8 x14.second)]) underlying78 (by kernel_rfl : (prog.info? 80).map (fun i => (i.zero, i.size, i.bytes)) = some (some (.agg #[(.int .u8 0), (.int .u8 0)]), (encCell).size, 2)) rfl (by decide) rfl rfl rfl rfl rfl rfl rl24 rl31 e27 (fun ao22 cap22 rl32 => ?_)
         refine ⟨fun w' s => (s.sl [1, 6, 8]), ?_⟩
         refine TQ' 12 rfl (ov_indexAddr_bsl (j := 3) underlying76 sizeOf78 rfl rfl rfl (eq_of_beq hc11) rfl) ?_
         refine AL.any (rs := [13]) (by kernel_rfl) (by decide) ?_
         refine ALs.cons0 (i := 13) rfl (Runs.free rfl) rfl ?_ ?_
         ·
          refine os_store (i := 7) (vs := [(.slice ao22 (l15 ++ ([x14] : List Cell)).length cap22)]) (cs' := [(.slice ao15 l12.length cap15), (.slice ao16 l13.length cap16), (.slice ao17 l14.length cap17), (.slice ao22 (l15 ++ ([x14] : List Cell)).length cap22)]) sizeOf78 rfl rfl rfl rfl rfl rfl rfl rfl rfl ?_
          refine ⟨fun w' s => (s.sl [1, 6, 8]), ?_⟩
          refine AL.done (by kernel_rfl) ?_
          refine bn (tn (WP.region (V rfl (ov_add rfl rfl rfl) (Vm rfl (WL.nil (tn ?_))))))
          exact ⟨(IntKind.wrap .i64 (i4 + 1)), l12, ao15, cap15, xs14, l13, ao16, cap16, xs15, l14, ao17, cap17, xs16, (l15 ++ ([x14] : List Cell)), ao22, cap22, (xs17 ++ [(.int .u8 x14.first), (.int .u8 x14.second)]), rl21, rl22, rl23, rl32, (Sub.all rfl), fun w' s => (s.sl [1, 2, 3, 4, 5, 6, 7, 8]), hm⟩
         exact ALs.nil
        exact ALs.nil
       exact ALs.nil
      refine ALs.cons (i := 10) rfl (Runs.free rfl) rfl rfl ?_ ?_
      ·
       have rl31 : RL H encCell ([x14] : List Cell) [(.int .u8 x14.first), (.int .u8 x14.second)] := RL.cons (cs := [(.int .u8 x14.first), (.int .u8 x14.second)]) (xs := []) rfl (RL.nil _ _)
       refine os_buildSlice (cs := [(.int .u8 x14.first), (.int .u8 x14.second)]) (E := 80) (sz := 2) rfl rfl (fun _ => by kernel_rfl) rfl (by decide) (fun b10 => ?_)
       refine ⟨fun w' s => (s.sl [1, 6, 8]), ?_⟩
       refine AL.any (rs := [5]) (by kernel_rfl) (by decide) ?_
       refine ALs.cons (i := 5) rfl (Runs.free rfl) rfl rfl ?_ ?_
       ·
        refine OQ.step (OV.quiet (ov_load_box (i := 7) isAgg78 rfl rfl rfl rfl)) ?_
        refine ⟨fun w' s => (s.sl [1, 6, 8]), ?_⟩
        refine AL.any (rs := [11]) (by kernel_rfl) (by decide) ?_
        refine ALs.cons (i := 11) rfl (Runs.free rfl) rfl rfl ?_ ?_
        ·
         obtain ⟨l19, e27, hm⟩ := bind_some hm
         refine os_app (i := 2) (j := 0) (En := encCell) (xs := xs17) (ys := [(.int .u8 x14.first), (.int .u8 x14.second)]) underlying78 (by kernel_rfl : (prog.info? 80).map (fun i => (i.zero, i.size, i.bytes)) = some (some (.agg #[(.int .u8 0), (.int .u8 0)]), (encCell).size, 2)) rfl (by decide) rfl rfl rfl rfl rfl rfl rl24 rl31 e27 (fun ao22 cap22 rl32 => ?_)
         refine ⟨fun w' s => (s.sl [1, 6, 8]), ?_⟩
         refine TQ' 12 rfl (ov_indexAddr_bsl (j := 3) underlying76 sizeOf78 rfl rfl rfl (eq_of_beq hc11) rfl) ?_
         refine AL.any (rs := [13]) (by kernel_rfl) (by decide) ?_
         refine ALs.cons0 (i := 13) rfl (Runs.free rfl) rfl ?_ ?_
         ·
          refine os_store (i := 7) (vs := [(.slice ao22 (l15 ++ ([x14] : List Cell)).length cap22)]) (cs' := [(.slice ao15 l12.length cap15), (.slice ao16 l13.length cap16), (.slice ao17 l14.length cap17), (.slice ao22 (l15 ++ ([x14] : List Cell)).length cap22)]) sizeOf78 rfl rfl rfl rfl rfl rfl rfl rfl rfl ?_
          refine ⟨fun w' s => (s.sl [1, 6, 8]), ?_⟩
          refine AL.done (by kernel_rfl) ?_
          refine bn (tn (WP.region (V rfl (ov_add rfl rfl rfl) (Vm rfl (WL.nil (tn ?_))))))
          exact ⟨(IntKind.wrap .i64 (i4 + 1)), l12, ao15, cap15, xs14, l13, ao16, cap16, xs15, l14, ao17, cap17, xs16, (l15 ++ ([x14] : List Cell)), ao22, cap22, (xs17 ++ [(.int .u8 x14.first), (.int .u8 x14.second)]), rl21, rl22, rl23, rl32, (Sub.all rfl), fun w' s => (s.sl [1, 2, 3, 4, 5, 6, 7, 8]), hm⟩
         exact ALs.nil
        exact ALs.nil
       exact ALs.nil
      exact ALs.nil
     replace hm := ite_f hc11 hm
     exact (none_some hm).elim
    replace hm := ite_f hc7 hm
    refine WP.exit (then_exit (then_exit (block_here (bn (tn ?_)))))
    exact ⟨l10, ao13, cap13, xs12, l12, ao15, cap15, xs14, l13, ao16, cap16, xs15, l14, ao17, cap17, xs16, l15, ao18, cap18, xs17, rl19, rl21, rl22, rl23, rl24, (Sub.all rfl), fun w' s => (s.sl [1, 2, 3, 4, 5, 6, 7]), hm⟩
   rintro g' S' ⟨l20, ao23, cap23, xs18, l21, ao24, cap24, xs19, l22, ao25, cap25, xs20, l23, ao26, cap26, xs21, l24, ao27, cap27, xs22, rl33, rl34, rl35, rl36, rl37, hsub7, hS7, hm⟩
   refine WP.sub hsub7 (WP.weaken hS7 ?_)
   replace hm := (congrFun (congrFun (congrFun (congrFun (congrFun hk2 l20) l21) l22) l23) l24).symm.trans hm
   refine WP.region (V rfl (ov_add rfl rfl rfl) (Vm rfl (WL.nil (tn ?_))))
   exact ⟨(IntKind.wrap .i64 (i1 + 1)), l20, ao23, cap23, xs18, l21, ao24, cap24, xs19, l22, ao25, cap25, xs20, l23, ao26, cap26, xs21, l24, ao27, cap27, xs22, rl33, rl34, rl35, rl36, rl37, (Sub.all rfl), fun w' s => s, hm⟩
  replace hm := ite_f hc3 hm
  refine WP.exit (then_exit (then_exit (block_here (tn ?_))))
  exact ⟨l2, ao4, cap4, xs3, l3, ao5, cap5, xs4, l4, ao6, cap6, xs5, l5, ao7, cap7, xs6, rl7, rl8, rl9, rl10, (Sub.all rfl), fun w' s => (s.sl [0, 1, 2, 3, 5]), hm⟩
 rintro g' S' ⟨l25, ao28, cap28, xs23, l26, ao29, cap29, xs24, l27, ao30, cap30, xs25, l28, ao31, cap31, xs26, rl38, rl39, rl40, rl41, hsub8, hS8, hm⟩
 refine WP.sub hsub8 (WP.weaken hS8 ?_)
 replace hm := (congrFun (congrFun (congrFun (congrFun hk1 l25) l26) l27) l28).symm.trans hm
 refine WP.seq (WP.region (Vm rfl ?_))
 refine WL.weaken (fun _ s => s.sl [3, 0, 1, 2, 4]) ?_
 refine WL.held rl38 (fun H1 hc12 hle1 h89 => ?_)
 replace rl41 := rl41.mono hle1
 replace rl40 := rl40.mono hle1
 replace rl39 := rl39.mono hle1
 refine WL.weaken (fun _ s => s.sl [2, 0, 1, 3]) ?_
 refine WL.held rl39 (fun H2 hc13 hle2 h90 => ?_)
 replace rl41 := rl41.mono hle2
 replace rl40 := rl40.mono hle2
 replace h89 := h89.mono hle2
 refine WL.weaken (fun _ s => s.sl [1, 0, 2]) ?_
 refine WL.held rl40 (fun H3 hc14 hle3 h91 => ?_)
 replace rl41 := rl41.mono hle3
 replace h89 := h89.mono hle3
 replace h90 := h90.mono hle3
 refine WL.held rl41 (fun H4 hc15 hle4 h92 => ?_)
 replace h89 := h89.mono hle4
 replace h90 := h90.mono hle4
 replace h91 := h91.mono hle4
 have rl42 : RL H4 (encSl encCell) ([l25, l26, l27, l28] : List (List Cell)) [(.slice ao28 l25.length cap28), (.slice ao29 l26.length cap29), (.slice ao30 l27.length cap30), (.slice ao31 l28.length cap31)] := RL.cons (cs := [(.slice ao28 l25.length cap28)]) (xs := [(.slice ao29 l26.length cap29), (.slice ao30 l27.length cap30), (.slice ao31 l28.length cap31)]) ⟨ao28, cap28, rfl, h89, hc12⟩ (RL.cons (cs := [(.slice ao29 l26.length cap29)]) (xs := [(.slice ao30 l27.length cap30), (.slice ao31 l28.length cap31)]) ⟨ao29, cap29, rfl, h90, hc13⟩ (RL.cons (cs := [(.slice ao30 l27.length cap30)]) (xs := [(.slice ao31 l28.length cap31)]) ⟨ao30, cap30, rfl, h91, hc14⟩ (RL.cons (cs := [(.slice ao31 l28.length cap31)]) (xs := []) ⟨ao31, cap31, rfl, h92, hc15⟩ (RL.nil _ _))))
 refine WL.weaken (fun _ s => s.blk_rowN (N := 4) (sz := 1) rfl (by decide)) ?_
 refine Va rfl (WL.nil (tn (WP.ret ?_)))
 obtain rfl := Option.some.inj hm
 refine retQ_ret results43 (Res.tmp rfl Res.nil) rfl (fun w' s => ⟨s.below, ?_⟩)
 obtain ⟨h93, hc16⟩ := s.ret_row (i := 0) rfl rl42
 exact ⟨(some ⟨b2, 0, none⟩), 4, rfl, h93, hc16⟩
theorem diagram_cells5_con (p_s : Sequence) (ao1 : Option Addr) (cap1 : Nat) (w : World) (H : Heap) (hH : Le H (hp w)) (h1 : SL H encStep ao1 p_s.steps) (hc1 : p_s.steps.length ≤ cap1) (hG : Glob H) (hn : (p_s.actuators == 5) = true) (r : (List (List Cell))) (hm : diagram_cells5 p_s = some r) :
  Con prog 43 [(.agg #[(.int .i64 p_s.actuators), (.slice ao1 p_s.steps.length cap1)])] w H (fun v H' => ∃ (ao2 : Option Addr) (cap2 : Nat), v = (.slice ao2 r.length cap2) ∧ SL H' (encSl encCell) ao2 r ∧ r.length ≤ cap2) := by
 unfold diagram_cells5 at hm
 refine con_of hH func43 rfl 99 ntmps43 rfl ?_
 refine WP.seq (WP.region ?_)
 refine ws rfl (os_box (cs := [(.int .i64 p_s.actuators), (.slice ao1 p_s.steps.length cap1)]) rfl rfl rfl (fun b1 => ?_))
 refine Va rfl (WL.nil (tn (WP.seq (WP.region (V rfl (ov_fieldAddr underlying24 rfl rfl rfl sizeOf3 rfl rfl) (Vl 0 isAgg3 rfl ?_))))))
 refine ws rfl (os_makeSlice_n (N := 5) (sz := 1) (bytes := 24) (z := (.slice none 0 0)) (cs := [(.slice none 0 0), (.slice none 0 0), (.slice none 0 0), (.slice none 0 0), (.slice none 0 0)]) underlying76 (by kernel_rfl) (by kernel_rfl) rfl rfl rfl (eq_of_beq hn) (by decide) (by decide) (fun b2 => ?_))
 refine Va rfl (WL.nil (tn (WP.seq (WP.region (V rfl (ov_fieldAddr underlying24 rfl rfl rfl sizeOf3 rfl rfl) (Vl 1 isAgg3 rfl ?_))))))
 obtain ⟨u1, e1, hm⟩ := bind_some hm
 replace e1 := guardO_some e1
 refine ws rfl (os_makeSlice (En := encBool) (z := (.bool false)) (y0 := false) (bytes := 1) underlying49 (by kernel_rfl) rfl (by decide) rfl rfl rfl e1 (fun b3 xs1 rl1 => ?_))
 refine Va rfl (WL.nil (tn ?_))
 obtain ⟨k1, hk1, hm⟩ := joinK_some hm
 refine WP.seq_join (fun g' S' => ∃ (l29 : (List Cell)) (ao32 : _) (cap32 : _) (xs26 : _) (l30 : (List Cell)) (ao33 : _) (cap33 : _) (xs27 : _) (l31 : (List Cell)) (ao34 : _) (cap34 : _) (xs28 : _) (l32 : (List Cell)) (ao35 : _) (cap35 : _) (xs29 : _) (l33 : (List Cell)) (ao36 : _) (cap36 : _) (xs30 : _), RL H encCell l29 xs26 ∧ RL H encCell l30 xs27 ∧ RL H encCell l31 xs28 ∧ RL H encCell l32 xs29 ∧ RL H encCell l33 xs30 ∧ Sub [(3, (.slice (some ⟨b2, 0, none⟩) 5 5)), (1000000007, (.bool false))] g' ∧ (∀ w', S' w' → St w H [rowE 80 encCell l33 ao36 cap36 xs30, rowE 80 encCell l32 ao35 cap35 xs29, rowE 80 encCell l31 ao34 cap34 xs28, rowE 80 encCell l30 ao33 cap33 xs27, rowE 80 encCell l29 ao32 cap32 xs26, .blk b2 78 [(.slice ao32 l29.length cap32), (.slice ao33 l30.length cap33), (.slice ao34 l31.length cap34), (.slice ao35 l32.length cap35), (.slice ao36 l33.length cap36)]] H w') ∧ k1 l29 l30 l31 l32 l33 = some r) ?_ ?_
 ·
  refine WP.seq (WP.region (V rfl (ov_fieldAddr underlying24 rfl rfl rfl sizeOf22 rfl rfl) (Vl 2 isAgg22 rfl (V rfl (ov_len_slice underlying22 rfl rfl) (Vm rfl (WL.nil (tn (WP.block ?_))))))))
  have rl2 := RL.nil (α := Cell) H encCell
  refine WP.weaken (fun _ s => s.nilrow 80 (encCell).size) ?_
  have rl3 := RL.nil (α := Cell) H encCell
  refine WP.weaken (fun _ s => s.nilrow 80 (encCell).size) ?_
  have rl4 := RL.nil (α := Cell) H encCell
  refine WP.weaken (fun _ s => s.nilrow 80 (encCell).size) ?_
  have rl5 := RL.nil (α := Cell) H encCell
  refine WP.weaken (fun _ s => s.nilrow 80 (encCell).size) ?_
  have rl6 := RL.nil (α := Cell) H encCell
  refine WP.weaken (fun _ s => s.nilrow 80 (encCell).size) ?_
  refine WP.loop (fun m1 g' S' => ∃ (i1 : Int) (l1 : (List Bool)) (ao3 : _) (cap3 : _) (xs2 : _) (l2 : (List Cell)) (ao4 : _) (cap4 : _) (xs3 : _) (l3 : (List Cell)) (ao5 : _) (cap5 : _) (xs4 : _) (l4 : (List Cell)) (ao6 : _) (cap6 : _) (xs5 : _) (l5 : (List Cell)) (ao7 : _) (cap7 : _) (xs6 : _) (l6 : (List Cell)) (ao8 : _) (cap8 : _) (xs7 : _), RL H encBool l1 xs2 ∧ RL H encCell l2 xs3 ∧ RL H encCell l3 xs4 ∧ RL H encCell l4 xs5 ∧ RL H encCell l5 xs6 ∧ RL H encCell l6 xs7 ∧ Sub [(1, (pB b1 0)), (3, (.slice (some ⟨b2, 0, none⟩) 5 5)), (4, (.slice ao3 l1.length cap3)), (20, (.slice ao1 p_s.steps.length cap1)), (21, (.int .i64 (p_s.steps.length : Int))), (22, (.int .i64 i1)), (1000000007, (.bool false))] g' ∧ (∀ w', S' w' → St w H [rowE 80 encCell l6 ao8 cap8 xs7, rowE 80 encCell l5 ao7 cap7 xs6, rowE 80 encCell l4 ao6 cap6 xs5, rowE 80 encCell l3 ao5 cap5 xs4, rowE 80 encCell l2 ao4 cap4 xs3, rowE 4 encBool l1 ao3 cap3 xs2, .blk b2 78 [(.slice ao4 l2.length cap4), (.slice ao5 l3.length cap5), (.slice ao6 l4.length cap6), (.slice ao7 l5.length cap7), (.slice ao8 l6.length cap8)], .blk b1 24 [(.int .i64 p_s.actuators), (.slice ao1 p_s.steps.length cap1)]] H w') ∧ diagram_cells5_loop1 p_s k1 m1 i1 l1 l2 l3 l4 l5 l6 = some r) ((Int.toNat ((p_s.steps.length : Int) - 0) + 1)) ⟨0, (List.replicate (Int.toNat p_s.actuators) false), (some ⟨b3, 0, none⟩), (Int.toNat p_s.actuators), xs1, ([] : List Cell), none, 0, [], ([] : List Cell), none, 0, [], ([] : List Cell), none, 0, [], ([] : List Cell), none, 0, [], ([] : List Cell), none, 0, [], rl1, rl2, rl3, rl4, rl5, rl6, (Sub.all rfl), fun w' s => s, hm⟩ ?_ ?_
  ·
   rintro g' S' ⟨_, _, _, _, _, _, _, _, _, _, _, _, _, _, _, _, _, _, _, _, _, _, _, _, _, _, _, _, _, _, _, _, _, hm⟩
   exact none_some hm
  rintro m1 g' S' ⟨i1, l1, ao3, cap3, xs2, l2, ao4, cap4, xs3, l3, ao5, cap5, xs4, l4, ao6, cap6, xs5, l5, ao7, cap7, xs6, l6, ao8, cap8, xs7, rl7, rl8, rl9, rl10, rl11, rl12, hsub1, hS1, hm⟩
  refine WP.sub hsub1 (WP.weaken hS1 ?_)
  rw [diagram_cells5_loop1] at hm
  refine WP.seq (WP.region (V rfl (ov_lss rfl rfl rfl) (WL.nil (tn (WP.seq ?_)))))
  refine WP.cond rfl (fun hc3 => ?_) (fun hc3 => ?_)
  ·
   replace hm := ite_t hc3 hm
   refine WP.skip (tn ?_)
   obtain ⟨k2, hk2, hm⟩ := joinK_some hm
   refine WP.seq_join (fun g' S' => ∃ (l23 : (List Bool)) (ao26 : _) (cap26 : _) (xs20 : _) (l24 : (List Cell)) (ao27 : _) (cap27 : _) (xs21 : _) (l25 : (List Cell)) (ao28 : _) (cap28 : _) (xs22 : _) (l26 : (List Cell)) (ao29 : _) (cap29 : _) (xs23 : _) (l27 : (List Cell)) (ao30 : _) (cap30 : _) (xs24 : _) (l28 : (List Cell)) (ao31 : _) (cap31 : _) (xs25 : _), RL H encBool l23 xs20 ∧ RL H encCell l24 xs21 ∧ RL H encCell l25 xs22 ∧ RL H encCell l26 xs23 ∧ RL H encCell l27 xs24 ∧ RL H encCell l28 xs25 ∧ Sub [(1, (pB b1 0)), (3, (.slice (some ⟨b2, 0, none⟩) 5 5)), (4, (.slice ao26 l23.length cap26)), (20, (.slice ao1 p_s.steps.length cap1)), (21, (.int .i64 (p_s.steps.length : Int))), (22, (.int .i64 i1)), (1000000007, (.bool false))] g' ∧ (∀ w', S' w' → St w H [rowE 80 encCell l28 ao31 cap31 xs25, rowE 80 encCell l27 ao30 cap30 xs24, rowE 80 encCell l26 ao29 cap29 xs23, rowE 80 encCell l25 ao28 cap28 xs22, rowE 80 encCell l24 ao27 cap27 xs21, rowE 4 encBool l23 ao26 cap26 xs20, .blk b2 78 [(.slice ao27 l24.length cap27), (.slice ao28 l25.length cap28), (.slice ao29 l26.length cap29), (.slice ao30 l27.length cap30), (.slice ao31 l28.length cap31)], .blk b1 24 [(.int .i64 p_s.actuators), (.slice ao1 p_s.steps.length cap1)]] H w') ∧ k2 l23 l24 l25 l26 l27 l28 = some r) ?_ ?_
   ·
    refine WP.block (WP.seq (WP.region ?_))
    obtain ⟨x1, e2, hm⟩ := bind_some hm
    obtain ⟨h4, h5, h6, cs1, h7, h8⟩ := h1.get e2 (by decide)
    obtain ⟨ao9, cap9, rfl, h3, hc4⟩ := h7
    refine V rfl (ov_indexAddr underlying22 sizeOf45 rfl rfl rfl h4 h5 h6) (V rfl (ov_load_elems (vs := [(.slice ao9 x1.strokes.length cap9), (.int .i64 x1.wait)]) isAgg45 sizeOf45 rfl rfl rfl h8 h6) ?_)
    refine ws rfl (os_alloc (cs := [(.slice none 0 0), (.int .i64 0)]) zeroValue45 rfl rfl (fun b4 => ?_))
    refine ws0 rfl (os_store (i := 0) (vs := [(.slice ao9 x1.strokes.length cap9), (.int .i64 x1.wait)]) (cs' := [(.slice ao9 x1.strokes.length cap9), (.int .i64 x1.wait)]) sizeOf45 rfl rfl rfl rfl rfl rfl rfl rfl rfl ?_)
    refine WL.nil (tn (WP.seq (WP.region (V rfl (ov_fieldAddr underlying24 rfl rfl rfl sizeOf3 rfl rfl) (Vl 8 isAgg3 rfl ?_)))))
    obtain ⟨u2, e3, hm⟩ := bind_some hm
    replace e3 := guardO_some e3
    refine ws rfl (os_makeSlice (En := encCell) (z := (.agg #[(.int .u8 0), (.int .u8 0)])) (y0 := (Cell.mk 0 0)) (bytes := 2) underlying78 (by kernel_rfl) rfl (by decide) rfl rfl rfl e3 (fun b5 xs8 rl13 => ?_))
    refine Va rfl (WL.nil (tn ?_))
    obtain ⟨k3, hk3, hm⟩ := joinK_some hm
    refine WP.seq_join (fun g' S' => ∃ (l8 : (List Cell)) (ao11 : _) (cap11 : _) (xs10 : _), RL H encCell l8 xs10 ∧ Sub [(1, (pB b1 0)), (3, (.slice (some ⟨b2, 0, none⟩) 5 5)), (4, (.slice ao3 l1.length cap3)), (6, (pB b4 0)), (7, (.slice ao11 l8.length cap11)), (20, (.slice ao1 p_s.steps.length cap1)), (21, (.int .i64 (p_s.steps.length : Int))), (22, (.int .i64 i1)), (1000000007, (.bool false))] g' ∧ (∀ w', S' w' → St w H [rowE 80 encCell l8 ao11 cap11 xs10, .blk b4 45 [(.slice ao9 x1.strokes.length cap9), (.int .i64 x1.wait)], rowE 80 encCell l6 ao8 cap8 xs7, rowE 80 encCell l5 ao7 cap7 xs6, rowE 80 encCell l4 ao6 cap6 xs5, rowE 80 encCell l3 ao5 cap5 xs4, rowE 80 encCell l2 ao4 cap4 xs3, rowE 4 encBool l1 ao3 cap3 xs2, .blk b2 78 [(.slice ao4 l2.length cap4), (.slice ao5 l3.length cap5), (.slice ao6 l4.length cap6), (.slice ao7 l5.length cap7), (.slice ao8 l6.length cap8)], .blk b1 24 [(.int .i64 p_s.actuators), (.slice ao1 p_s.steps.length cap1)]] H w') ∧ k3 l8 = some r) ?_ ?_
    ·
     refine WP.seq (WP.region (Vm rfl (V rfl (ov_len_slice underlying49 rfl rfl) (Vm rfl (WL.nil (tn (WP.block ?_)))))))
     refine WP.loop (fun m2 g' S' => ∃ (i2 : Int) (l7 : (List Cell)) (ao10 : _) (cap10 : _) (xs9 : _), RL H encCell l7 xs9 ∧ Sub [(1, (pB b1 0)), (3, (.slice (some ⟨b2, 0, none⟩) 5 5)), (4, (.slice ao3 l1.length cap3)), (6, (pB b4 0)), (7, (.slice ao10 l7.length cap10)), (20, (.slice ao1 p_s.steps.length cap1)), (21, (.int .i64 (p_s.steps.length : Int))), (22, (.int .i64 i1)), (29, (.slice ao3 l1.length cap3)), (30, (.int .i64 (l1.length : Int))), (31, (.int .i64 i2)), (1000000007, (.bool false))] g' ∧ (∀ w', S' w' → St w H [rowE 80 encCell l7 ao10 cap10 xs9, .blk b4 45 [(.slice ao9 x1.strokes.length cap9), (.int .i64 x1.wait)], rowE 80 encCell l6 ao8 cap8 xs7, rowE 80 encCell l5 ao7 cap7 xs6, rowE 80 encCell l4 ao6 cap6 xs5, rowE 80 encCell l3 ao5 cap5 xs4, rowE 80 encCell l2 ao4 cap4 xs3, rowE 4 encBool l1 ao3 cap3 xs2, .blk b2 78 [(.slice ao4 l2.length cap4), (.slice ao5 l3.length cap5), (.slice ao6 l4.length cap6), (.slice ao7 l5.length cap7), (.slice ao8 l6.length cap8)], .blk b1 24 [(.int .i64 p_s.actuators), (.slice ao1 p_s.steps.length cap1)]] H w') ∧ diagram_cells1_loop2 l1 k3 m2 i2 l7 = some r) ((Int.toNat ((l1.length : Int) - 0) + 1)) ⟨0, (List.replicate (Int.toNat p_s.actuators) (Cell.mk 0 0)), (some ⟨b5, 0, none⟩), (Int.toNat p_s.actuators), xs8, rl13, (Sub.all rfl), fun w' s => s, hm⟩ ?_ ?_
     ·
      rintro g' S' ⟨_, _, _, _, _, _, _, _, hm⟩
      exact none_some hm
     rintro m2 g' S' ⟨i2, l7, ao10, cap10, xs9, rl14, hsub2, hS2, hm⟩
     refine WP.sub hsub2 (WP.weaken hS2 ?_)
     rw [diagram_cells1_loop2] at hm
     refine WP.seq (WP.region (V rfl (ov_lss rfl rfl rfl) (WL.nil (tn (WP.seq ?_)))))
     refine WP.cond rfl (fun hc5 => ?_) (fun hc5 => ?_)
     ·
      replace hm := ite_t hc5 hm
      refine WP.skip (tn (WP.seq (WP.block (WP.seq (WP.region (Vm rfl ?_))))))
      obtain ⟨x2, e4, hm⟩ := bind_some hm
      obtain ⟨h9, h10, h11, cs2, h12, h13⟩ := RL.get rl7 e4
      obtain rfl : cs2 = [(.bool x2)] := h12
      refine V rfl (ov_indexAddr_own (i := 7) underlying49 sizeOf4 rfl rfl rfl rfl h9 h10) (V rfl (ov_load_own (i := 7) isAgg4 rfl rfl rfl (own_pos h9 h10) (elem_cell h13 (off := 0) rfl)) (Va rfl (Va rfl (WL.nil (tn ?_)))))
      refine WP.region_any (S₀ := St w H [.blk b4 45 [(.slice ao9 x1.strokes.length cap9), (.int .i64 x1.wait)], rowE 80 encCell l6 ao8 cap8 xs7, rowE 80 encCell l5 ao7 cap7 xs6, rowE 80 encCell l4 ao6 cap6 xs5, rowE 80 encCell l3 ao5 cap5 xs4, rowE 80 encCell l2 ao4 cap4 xs3, rowE 4 encBool l1 ao3 cap3 xs2, .blk b2 78 [(.slice ao4 l2.length cap4), (.slice ao5 l3.length cap5), (.slice ao6 l4.length cap6), (.slice ao7 l5.length cap7), (.slice ao8 l6.length cap8)], .blk b1 24 [(.int .i64 p_s.actuators), (.slice ao1 p_s.steps.length cap1)]] H) 13 rfl (by kernel_rfl) (fun w' s => (s.sl [1, 2, 3, 4, 5, 6, 7, 8, 9])) (fun _ s => s.drew) ?_
      refine TQ' 0 rfl (ov_move rfl rfl) (TQ' 1 rfl (ov_move rfl rfl) (TQ' 2 rfl (ov_move rfl rfl) (TQ' 6 rfl (ov_move rfl rfl) ?_)))
      refine AL.any (rs := [3]) (by kernel_rfl) (by decide) ?_
      refine ALs.cons (i := 3) rfl (Runs.free rfl) rfl rfl ?_ ?_
      ·
       obtain ⟨r1, e5, hm⟩ := bind_some hm
       refine OQ.step (oq_con (r := (.int .i64 r1)) call87 rfl rfl (fun w' s => ⟨_, (diagram_index_con x2  w' H s.hold hG r1 e5)⟩)) ?_
       refine ⟨fun w' s => (s.sl [1, 2, 3, 4, 5, 6, 7, 8, 9]), ?_⟩
       obtain ⟨x3, e6, hm⟩ := bind_some hm
       obtain ⟨h14, h15, h16, cs3, h17, h18⟩ := hG.1.1.1.get e6 (by decide)
       obtain rfl : cs3 = [(.int .u8 x3)] := h17
       refine TQ' 4 rfl (ov_indexAddr_globL rfl underlying84 sizeOf5 rfl rfl rfl h14 h15) (TQ' 5 rfl (ov_load_elem (v := (.int .u8 x3)) isAgg5 rfl rfl h18) ?_)
       refine AL.any (rs := [7]) (by kernel_rfl) (by decide) ?_
       refine ALs.cons (i := 7) rfl (Runs.free rfl) rfl rfl ?_ ?_
       ·
        obtain ⟨r2, e7, hm⟩ := bind_some hm
        refine OQ.step (oq_con (r := (.int .i64 r2)) call87 rfl rfl (fun w' s => ⟨_, (diagram_index_con x2  w' H s.hold hG r2 e7)⟩)) ?_
        refine ⟨fun w' s => (s.sl [1, 2, 3, 4, 5, 6, 7, 8, 9]), ?_⟩
        obtain ⟨x4, e8, hm⟩ := bind_some hm
        obtain ⟨h19, h20, h21, cs4, h22, h23⟩ := hG.1.1.1.get e8 (by decide)
        obtain rfl : cs4 = [(.int .u8 x4)] := h22
        refine TQ' 8 rfl (ov_indexAddr_globL rfl underlying84 sizeOf5 rfl rfl rfl h19 h20) (TQ' 9 rfl (ov_load_elem (v := (.int .u8 x4)) isAgg5 rfl rfl h23) (TQ' 10 rfl (ov_build (r := (.agg #[(.int .u8 x3), (.int .u8 x4)])) rfl rfl (fun _ => by kernel_rfl)) ?_))
        refine AL.any (rs := [11]) (by kernel_rfl) (by decide) ?_
        refine ALs.cons (i := 11) rfl (Runs.free rfl) rfl rfl ?_ ?_
        ·
         obtain ⟨x5, e9, hm⟩ := bind_some hm
         obtain ⟨h24, h25, h26, cs5, h27, h28⟩ := RL.get rl14 e9
         obtain rfl : cs5 = [(.int .u8 x5.first), (.int .u8 x5.second)] := h27
         refine OQ.step (OV.quiet (ov_indexAddr_own (i := 0) underlying78 sizeOf80 rfl rfl rfl rfl h24 h25)) ?_
         refine ⟨fun w' s => (s.sl [1, 2, 3, 4, 5, 6, 7, 8, 9]), ?_⟩
         refine AL.any (rs := [12]) (by kernel_rfl) (by decide) ?_
         refine ALs.cons0 (i := 12) rfl (Runs.free rfl) rfl ?_ ?_
         ·
          have rl15 := RL.set rl14 (y := (Cell.mk x3 x4)) (off := 0) (vs := [(.int .u8 x3), (.int .u8 x4)]) e9 h28 rfl (Nat.le_of_ble_eq_true rfl)
          have e10 := at?_set (y := (Cell.mk x3 x4)) e9
          refine os_store_own (i := 0) (vs := [(.int .u8 x3), (.int .u8 x4)]) sizeOf80 rfl rfl rfl rfl (own_pos h24 h25) rfl rfl (elem_le (off := 0) h26 (Nat.le_of_ble_eq_true rfl)) rfl ?_
          rw [show l7.length = (List.set l7 (Int.toNat i2) (Cell.mk x3 x4)).length from List.length_set.symm]
          obtain ⟨h29, h30, h31, cs6, h32, h33⟩ := rl15.get e10
          obtain rfl : cs6 = [(.int .u8 x3), (.int .u8 x4)] := h32
          refine ⟨fun w' s => (s.sl [1, 2, 3, 4, 5, 6, 7, 8, 9]), ?_⟩
          refine AL.done (by kernel_rfl) ?_
          refine bn (tn (WP.region (V rfl (ov_add rfl rfl rfl) (Vm rfl (WL.nil (tn ?_))))))
          exact ⟨(IntKind.wrap .i64 (i2 + 1)), (List.set l7 (Int.toNat i2) (Cell.mk x3 x4)), ao10, cap10, (spl xs9 (Int.toNat i2 * encCell.size + 0) [(.int .u8 x3), (.int .u8 x4)]), rl15, (Sub.all rfl), fun w' s => s, hm⟩
         exact ALs.nil
        exact ALs.nil
       exact ALs.nil
      exact ALs.nil
     replace hm := ite_f hc5 hm
     refine WP.exit (then_exit (then_exit (block_here (tn ?_))))
     exact ⟨l7, ao10, cap10, xs9, rl14, (Sub.all rfl), fun w' s => s, hm⟩
    rintro g' S' ⟨l8, ao11, cap11, xs10, rl16, hsub3, hS3, hm⟩
    refine WP.sub hsub3 (WP.weaken hS3 ?_)
    replace hm := (congrFun hk3 l8).symm.trans hm
    obtain ⟨k4, hk4, hm⟩ := joinK_some hm
    refine WP.seq_join (fun g' S' => ∃ (l11 : (List Bool)) (ao14 : _) (cap14 : _) (xs13 : _) (l12 : (List Cell)) (ao15 : _) (cap15 : _) (xs14 : _), RL H encBool l11 xs13 ∧ RL H encCell l12 xs14 ∧ Sub [(1, (pB b1 0)), (3, (.slice (some ⟨b2, 0, none⟩) 5 5)), (4, (.slice ao14 l11.length cap14)), (7, (.slice ao15 l12.length cap15)), (20, (.slice ao1 p_s.steps.length cap1)), (21, (.int .i64 (p_s.steps.length : Int))), (22, (.int .i64 i1)), (1000000007, (.bool false))] g' ∧ (∀ w', S' w' → St w H [rowE 80 encCell l12 ao15 cap15 xs14, rowE 80 encCell l6 ao8 cap8 xs7, rowE 80 encCell l5 ao7 cap7 xs6, rowE 80 encCell l4 ao6 cap6 xs5, rowE 80 encCell l3 ao5 cap5 xs4, rowE 80 encCell l2 ao4 cap4 xs3, rowE 4 encBool l11 ao14 cap14 xs13, .blk b2 78 [(.slice ao4 l2.length cap4), (.slice ao5 l3.length cap5), (.slice ao6 l4.length cap6), (.slice ao7 l5.length cap7), (.slice ao8 l6.length cap8)], .blk b1 24 [(.int .i64 p_s.actuators), (.slice ao1 p_s.steps.length cap1)]] H w') ∧ k4 l11 l12 = some r) ?_ ?_
    ·
     refine WP.seq (WP.region (V rfl (ov_fieldAddr underlying45 rfl rfl rfl sizeOf43 rfl rfl) (Vl 1 isAgg43 rfl (V rfl (ov_len_slice underlying43 rfl rfl) (Vm rfl (WL.nil (tn (WP.block ?_))))))))
     refine WP.loop (fun m3 g' S' => ∃ (i3 : Int) (l9 : (List Bool)) (ao12 : _) (cap12 : _) (xs11 : _) (l10 : (List Cell)) (ao13 : _) (cap13 : _) (xs12 : _), RL H encBool l9 xs11 ∧ RL H encCell l10 xs12 ∧ Sub [(1, (pB b1 0)), (3, (.slice (some ⟨b2, 0, none⟩) 5 5)), (4, (.slice ao12 l9.length cap12)), (7, (.slice ao13 l10.length cap13)), (20, (.slice ao1 p_s.steps.length cap1)), (21, (.int .i64 (p_s.steps.length : Int))), (22, (.int .i64 i1)), (50, (.slice ao9 x1.strokes.length cap9)), (51, (.int .i64 (x1.strokes.length : Int))), (52, (.int .i64 i3)), (1000000007, (.bool false))] g' ∧ (∀ w', S' w' → St w H [rowE 80 encCell l10 ao13 cap13 xs12, rowE 80 encCell l6 ao8 cap8 xs7, rowE 80 encCell l5 ao7 cap7 xs6, rowE 80 encCell l4 ao6 cap6 xs5, rowE 80 encCell l3 ao5 cap5 xs4, rowE 80 encCell l2 ao4 cap4 xs3, rowE 4 encBool l9 ao12 cap12 xs11, .blk b2 78 [(.slice ao4 l2.length cap4), (.slice ao5 l3.length cap5), (.slice ao6 l4.length cap6), (.slice ao7 l5.length cap7), (.slice ao8 l6.length cap8)], .blk b1 24 [(.int .i64 p_s.actuators), (.slice ao1 p_s.steps.length cap1)]] H w') ∧ diagram_cells1_loop3 x1 k4 m3 i3 l9 l10 = some r) ((Int.toNat ((x1.strokes.length : Int) - 0) + 1)) ⟨0, l1, ao3, cap3, xs2, l8, ao11, cap11, xs10, rl7, rl16, (Sub.all rfl), fun w' s => (s.sl [0, 2, 3, 4, 5, 6, 7, 8, 9]), hm⟩ ?_ ?_
     ·
      rintro g' S' ⟨_, _, _, _, _, _, _, _, _, _, _, _, _, hm⟩
      exact none_some hm
     rintro m3 g' S' ⟨i3, l9, ao12, cap12, xs11, l10, ao13, cap13, xs12, rl17, rl18, hsub4, hS4, hm⟩
     refine WP.sub hsub4 (WP.weaken hS4 ?_)
     rw [diagram_cells1_loop3] at hm
     refine WP.seq (WP.region (V rfl (ov_lss rfl rfl rfl) (WL.nil (tn (WP.seq ?_)))))
     refine WP.cond rfl (fun hc6 => ?_) (fun hc6 => ?_)
     ·
      replace hm := ite_t hc6 hm
      refine WP.skip (tn (WP.seq (WP.block (WP.seq (WP.region ?_)))))
      obtain ⟨x6, e11, hm⟩ := bind_some hm
      obtain ⟨h34, h35, h36, cs7, h37, h38⟩ := h3.get e11 (by decide)
      obtain rfl : cs7 = [(.int .i64 x6.actuator), (.bool x6.out)] := h37
      refine V rfl (ov_indexAddr underlying43 sizeOf48 rfl rfl rfl h34 h35 h36) (V rfl (ov_load_elems (vs := [(.int .i64 x6.actuator), (.bool x6.out)]) isAgg48 sizeOf48 rfl rfl rfl h38 h36) ?_)
      refine ws rfl (os_alloc (cs := [(.int .i64 0), (.bool false)]) zeroValue48 rfl rfl (fun b6 => ?_))
      refine ws0 rfl (os_store (i := 0) (vs := [(.int .i64 x6.actuator), (.bool x6.out)]) (cs' := [(.int .i64 x6.actuator), (.bool x6.out)]) sizeOf48 rfl rfl rfl rfl rfl rfl rfl rfl rfl ?_)
      refine WL.nil (tn (WP.seq (WP.region (Vm rfl (V rfl (ov_fieldAddr underlying48 rfl rfl rfl sizeOf3 rfl rfl) (Vl 0 isAgg3 rfl (V rfl (ov_fieldAddr underlying48 rfl rfl rfl sizeOf4 rfl rfl) (Vl 0 isAgg4 rfl ?_))))))))
      obtain ⟨x7, e12, hm⟩ := bind_some hm
      obtain ⟨h39, h40, h41, cs8, h42, h43⟩ := RL.get rl17 e12
      obtain rfl : cs8 = [(.bool x7)] := h42
      refine V rfl (ov_indexAddr_own (i := 7) underlying49 sizeOf4 rfl rfl rfl rfl h39 h40) ?_
      have rl19 := RL.set rl17 (y := x6.out) (off := 0) (vs := [(.bool x6.out)]) e12 h43 rfl (Nat.le_of_ble_eq_true rfl)
      have e13 := at?_set (y := x6.out) e12
      refine ws0 rfl (os_store_own (i := 7) (vs := [(.bool x6.out)]) sizeOf4 rfl rfl rfl rfl (own_pos h39 h40) rfl rfl (elem_le (off := 0) h41 (Nat.le_of_ble_eq_true rfl)) rfl ?_)
      rw [show l9.length = (List.set l9 (Int.toNat x6.actuator) x6.out).length from List.length_set.symm]
      obtain ⟨h44, h45, h46, cs9, h47, h48⟩ := rl19.get e13
      obtain rfl : cs9 = [(.bool x6.out)] := h47
      refine WL.nil (tn ?_)
      refine WP.region_any (S₀ := St w H [.blk b6 48 [(.int .i64 x6.actuator), (.bool x6.out)], rowE 80 encCell l6 ao8 cap8 xs7, rowE 80 encCell l5 ao7 cap7 xs6, rowE 80 encCell l4 ao6 cap6 xs5, rowE 80 encCell l3 ao5 cap5 xs4, rowE 80 encCell l2 ao4 cap4 xs3, .row 4 (encBool).size (List.set l9 (Int.toNat x6.actuator) x6.out).length (.slice ao12 (List.set l9 (Int.toNat x6.actuator) x6.out).length cap12) (spl xs11 (Int.toNat x6.actuator * encBool.size + 0) [(.bool x6.out)]), .blk b2 78 [(.slice ao4 l2.length cap4), (.slice ao5 l3.length cap5), (.slice ao6 l4.length cap6), (.slice ao7 l5.length cap7), (.slice ao8 l6.length cap8)], .blk b1 24 [(.int .i64 p_s.actuators), (.slice ao1 p_s.steps.length cap1)]] H) 16 rfl (by kernel_rfl) (fun w' s => (s.sl [0, 2, 3, 4, 5, 6, 7, 8, 9])) (fun _ s => s.drew) ?_
      refine TQ' 0 rfl (ov_move rfl rfl) (TQ' 1 rfl (ov_fieldAddr underlying48 rfl rfl rfl sizeOf3 rfl rfl) (TQ' 2 rfl (ov_load_box (i := 0) isAgg3 rfl rfl rfl rfl) (TQ' 3 rfl (ov_fieldAddr underlying48 rfl rfl rfl sizeOf4 rfl rfl) (TQ' 4 rfl (ov_load_box (i := 0) isAgg4 rfl rfl rfl rfl) (TQ' 8 rfl (ov_fieldAddr underlying48 rfl rfl rfl sizeOf4 rfl rfl) (TQ' 9 rfl (ov_load_box (i := 0) isAgg4 rfl rfl rfl rfl) ?_))))))
      refine AL.any (rs := [5]) (by kernel_rfl) (by decide) ?_
      refine ALs.cons (i := 5) rfl (Runs.free rfl) rfl rfl ?_ ?_
      ·
       obtain ⟨r3, e14, hm⟩ := bind_some hm
       refine OQ.step (oq_con (r := (.int .i64 r3)) call87 rfl rfl (fun w' s => ⟨_, (diagram_index_con x6.out  w' H s.hold hG r3 e14)⟩)) ?_
       refine ⟨fun w' s => (s.sl [0, 2, 3, 4, 5, 6, 7, 8, 9]), ?_⟩
       obtain ⟨x8, e15, hm⟩ := bind_some hm
       obtain ⟨h49, h50, h51, cs10, h52, h53⟩ := hG.1.1.2.get e15 (by decide)
       obtain rfl : cs10 = [(.int .u8 x8)] := h52
       refine TQ' 6 rfl (ov_indexAddr_globL rfl underlying84 sizeOf5 rfl rfl rfl h49 h50) (TQ' 7 rfl (ov_load_elem (v := (.int .u8 x8)) isAgg5 rfl rfl h53) ?_)
       refine AL.any (rs := [10]) (by kernel_rfl) (by decide) ?_
       refine ALs.cons (i := 10) rfl (Runs.free rfl) rfl rfl ?_ ?_
       ·
        obtain ⟨r4, e16, hm⟩ := bind_some hm
        refine OQ.step (oq_con (r := (.int .i64 r4)) call87 rfl rfl (fun w' s => ⟨_, (diagram_index_con x6.out  w' H s.hold hG r4 e16)⟩)) ?_
        refine ⟨fun w' s => (s.sl [0, 2, 3, 4, 5, 6, 7, 8, 9]), ?_⟩
        obtain ⟨x9, e17, hm⟩ := bind_some hm
        obtain ⟨h54, h55, h56, cs11, h57, h58⟩ := hG.1.1.1.get e17 (by decide)
        obtain rfl : cs11 = [(.int .u8 x9)] := h57
        refine TQ' 11 rfl (ov_indexAddr_globL rfl underlying84 sizeOf5 rfl rfl rfl h54 h55) (TQ' 12 rfl (ov_load_elem (v := (.int .u8 x9)) isAgg5 rfl rfl h58) (TQ' 13 rfl (ov_build (r := (.agg #[(.int .u8 x8), (.int .u8 x9)])) rfl rfl (fun _ => by kernel_rfl)) ?_))
        refine AL.any (rs := [14]) (by kernel_rfl) (by decide) ?_
        refine ALs.cons (i := 14) rfl (Runs.free rfl) rfl rfl ?_ ?_
        ·
         obtain ⟨x10, e18, hm⟩ := bind_some hm
         obtain ⟨h59, h60, h61, cs12, h62, h63⟩ := RL.get rl18 e18
         obtain rfl : cs12 = [(.int .u8 x10.first), (.int .u8 x10.second)] := h62
         refine OQ.step (OV.quiet (ov_indexAddr_own (i := 1) underlying78 sizeOf80 rfl rfl rfl rfl h59 h60)) ?_
         refine ⟨fun w' s => (s.sl [0, 2, 3, 4, 5, 6, 7, 8, 9]), ?_⟩
         refine AL.any (rs := [15]) (by kernel_rfl) (by decide) ?_
         refine ALs.cons0 (i := 15) rfl (Runs.free rfl) rfl ?_ ?_
         ·
          have rl20 := RL.set rl18 (y := (Cell.mk x8 x9)) (off := 0) (vs := [(.int .u8 x8), (.int .u8 x9)]) e18 h63 rfl (Nat.le_of_ble_eq_true rfl)
          have e19 := at?_set (y := (Cell.mk x8 x9)) e18
          refine os_store_own (i := 1) (vs := [(.int .u8 x8), (.int .u8 x9)]) sizeOf80 rfl rfl rfl rfl (own_pos h59 h60) rfl rfl (elem_le (off := 0) h61 (Nat.le_of_ble_eq_true rfl)) rfl ?_
          rw [show l10.length = (List.set l10 (Int.toNat x6.actuator) (Cell.mk x8 x9)).length from List.length_set.symm]
          obtain ⟨h64, h65, h66, cs13, h67, h68⟩ := rl20.get e19
          obtain rfl : cs13 = [(.int .u8 x8), (.int .u8 x9)] := h67
          refine ⟨fun w' s => (s.sl [0, 2, 3, 4, 5, 6, 7, 8, 9]), ?_⟩
          refine AL.done (by kernel_rfl) ?_
          refine bn (tn (WP.region (V rfl (ov_add rfl rfl rfl) (Vm rfl (WL.nil (tn ?_))))))
          exact ⟨(IntKind.wrap .i64 (i3 + 1)), (List.set l9 (Int.toNat x6.actuator) x6.out), ao12, cap12, (spl xs11 (Int.toNat x6.actuator * encBool.size + 0) [(.bool x6.out)]), (List.set l10 (Int.toNat x6.actuator) (Cell.mk x8 x9)), ao13, cap13, (spl xs12 (Int.toNat x6.actuator * encCell.size + 0) [(.int .u8 x8), (.int .u8 x9)]), rl19, rl20, (Sub.all rfl), fun w' s => (s.sl [1, 2, 3, 4, 5, 6, 7, 8, 9]), hm⟩
         exact ALs.nil
        exact ALs.nil
       exact ALs.nil
      exact ALs.nil
     replace hm := ite_f hc6 hm
     refine WP.exit (then_exit (then_exit (block_here (tn ?_))))
     exact ⟨l9, ao12, cap12, xs11, l10, ao13, cap13, xs12, rl17, rl18, (Sub.all rfl), fun w' s => s, hm⟩
    rintro g' S' ⟨l11, ao14, cap14, xs13, l12, ao15, cap15, xs14, rl21, rl22, hsub5, hS5, hm⟩
    refine WP.sub hsub5 (WP.weaken hS5 ?_)
    replace hm := (congrFun (congrFun hk4 l11) l12).symm.trans hm
    refine WP.seq (WP.region (Vm rfl (V rfl (ov_len_slice underlying76 rfl rfl) (Vm rfl (WL.nil (tn (WP.block ?_)))))))
    refine WP.loop (fun m4 g' S' => ∃ (i4 : Int) (l13 : (List Cell)) (ao16 : _) (cap16 : _) (xs15 : _) (l14 : (List Cell)) (ao17 : _) (cap17 : _) (xs16 : _) (l15 : (List Cell)) (ao18 : _) (cap18 : _) (xs17 : _) (l16 : (List Cell)) (ao19 : _) (cap19 : _) (xs18 : _) (l17 : (List Cell)) (ao20 : _) (cap20 : _) (xs19 : _), RL H encCell l13 xs15 ∧ RL H encCell l14 xs16 ∧ RL H encCell l15 xs17 ∧ RL H encCell l16 xs18 ∧ RL H encCell l17 xs19 ∧ Sub [(1, (pB b1 0)), (3, (.slice (some ⟨b2, 0, none⟩) 5 5)), (4, (.slice ao14 l11.length cap14)), (7, (.slice ao15 l12.length cap15)), (20, (.slice ao1 p_s.steps.length cap1)), (21, (.int .i64 (p_s.steps.length : Int))), (22, (.int .i64 i1)), (79, (.int .i64 5)), (80, (.int .i64 i4)), (1000000007, (.bool false))] g' ∧ (∀ w', S' w' → St w H [rowE 80 encCell l12 ao15 cap15 xs14, rowE 80 encCell l17 ao20 cap20 xs19, rowE 80 encCell l16 ao19 cap19 xs18, rowE 80 encCell l15 ao18 cap18 xs17, rowE 80 encCell l14 ao17 cap17 xs16, rowE 80 encCell l13 ao16 cap16 xs15, rowE 4 encBool l11 ao14 cap14 xs13, .blk b2 78 [(.slice ao16 l13.length cap16), (.slice ao17 l14.length cap17), (.slice ao18 l15.length cap18), (.slice ao19 l16.length cap19), (.slice ao20 l17.length cap20)], .blk b1 24 [(.int .i64 p_s.actuators), (.slice ao1 p_s.steps.length cap1)]] H w') ∧ diagram_cells5_loop4 k2 l12 l11 m4 i4 l13 l14 l15 l16 l17 = some r) ((Int.toNat (5 - 0) + 1)) ⟨0, l2, ao4, cap4, xs3, l3, ao5, cap5, xs4, l4, ao6, cap6, xs5, l5, ao7, cap7, xs6, l6, ao8, cap8, xs7, rl8, rl9, rl10, rl11, rl12, (Sub.all rfl), fun w' s => s, hm⟩ ?_ ?_
    ·
     rintro g' S' ⟨_, _, _, _, _, _, _, _, _, _, _, _, _, _, _, _, _, _, _, _, _, _, _, _, _, _, _, _, hm⟩
     exact none_some hm
    rintro m4 g' S' ⟨i4, l13, ao16, cap16, xs15, l14, ao17, cap17, xs16, l15, ao18, cap18, xs17, l16, ao19, cap19, xs18, l17, ao20, cap20, xs19, rl23, rl24, rl25, rl26, rl27, hsub6, hS6, hm⟩
    refine WP.sub hsub6 (WP.weaken hS6 ?_)
    rw [diagram_cells5_loop4] at hm
    refine WP.seq (WP.region (V rfl (ov_lss rfl rfl rfl) (WL.nil (tn (WP.seq ?_)))))
    refine WP.cond rfl (fun hc7 => ?_) (fun hc7 => ?_)
    ·
     replace hm := ite_t hc7 hm
     refine WP.skip (tn (WP.seq (WP.block (WP.seq (WP.region (Vm rfl (Va rfl (WL.nil (tn ?_)))))))))
     refine WP.region_any (S₀ := St w H [rowE 80 encCell l12 ao15 cap15 xs14, rowE 4 encBool l11 ao14 cap14 xs13, .blk b1 24 [(.int .i64 p_s.actuators), (.slice ao1 p_s.steps.length cap1)]] H) 14 rfl (by kernel_rfl) (fun w' s => (s.sl [0, 6, 8])) (fun _ s => s.drew) ?_
     refine TQ' 0 rfl (ov_move rfl rfl) (TQ' 1 rfl (ov_move rfl rfl) (TQ' 2 rfl (ov_move rfl rfl) (TQ' 3 rfl (ov_move rfl rfl) ?_)))
     rcases Bool.eq_false_or_eq_true (i4 == 0) with hc8 | hc8
     ·
      replace hm := ite_t hc8 hm
      refine TQ' 4 rfl (ov_indexAddr_bsl (j := 0) underlying76 sizeOf78 rfl rfl rfl (eq_of_beq hc8) rfl) (TQ' 6 rfl (ov_move rfl rfl) (TQ' 7 rfl (ov_move rfl rfl) ?_))
      obtain ⟨x11, e20, hm⟩ := bind_some hm
      obtain ⟨h69, h70, h71, cs14, h72, h73⟩ := RL.get rl22 e20
      obtain rfl : cs14 = [(.int .u8 x11.first), (.int .u8 x11.second)] := h72
      refine TQ' 8 rfl (ov_indexAddr_own (i := 0) underlying78 sizeOf80 rfl rfl rfl rfl h69 h70) (TQ' 9 rfl (ov_load_owns (i := 0) (vs := [(.int .u8 x11.first), (.int .u8 x11.second)]) isAgg80 sizeOf80 rfl rfl rfl (own_pos h69 h70) rfl (fun j u hu => elem_cell h73 hu)) ?_)
      refine AL.any (rs := [5, 10]) (by kernel_rfl) (by decide) ?_
      refine ALs.cons (i := 5) rfl (Runs.free rfl) rfl rfl ?_ ?_
      ·
       refine OQ.step (OV.quiet (ov_load_box (i := 7) isAgg78 rfl rfl rfl rfl)) ?_
       refine ⟨fun w' s => (s.sl [0, 6, 8]), ?_⟩
       refine AL.any (rs := [10]) (by kernel_rfl) (by decide) ?_
       refine ALs.cons (i := 10) rfl (Runs.free rfl) rfl rfl ?_ ?_
       ·
        have rl28 : RL H encCell ([x11] : List Cell) [(.int .u8 x11.first), (.int .u8 x11.second)] := RL.cons (cs := [(.int .u8 x11.first), (.int .u8 x11.second)]) (xs := []) rfl (RL.nil _ _)
        refine os_buildSlice (cs := [(.int .u8 x11.first), (.int .u8 x11.second)]) (E := 80) (sz := 2) rfl rfl (fun _ => by kernel_rfl) rfl (by decide) (fun b7 => ?_)
        refine ⟨fun w' s => (s.sl [1, 7, 9]), ?_⟩
        refine AL.any (rs := [11]) (by kernel_rfl) (by decide) ?_
        refine ALs.cons (i := 11) rfl (Runs.free rfl) rfl rfl ?_ ?_
        ·
         obtain ⟨l18, e21, hm⟩ := bind_some hm
         refine os_app (i := 6) (j := 0) (En := encCell) (xs := xs15) (ys := [(.int .u8 x11.first), (.int .u8 x11.second)]) underlying78 (by kernel_rfl : (prog.info? 80).map (fun i => (i.zero, i.size, i.bytes)) = some (some (.agg #[(.int .u8 0), (.int .u8 0)]), (encCell).size, 2)) rfl (by decide) rfl rfl rfl rfl rfl rfl rl23 rl28 e21 (fun ao21 cap21 rl29 => ?_)
         refine ⟨fun w' s => (s.sl [1, 7, 9]), ?_⟩
         refine TQ' 12 rfl (ov_indexAddr_bsl (j := 0) underlying76 sizeOf78 rfl rfl rfl (eq_of_beq hc8) rfl) ?_
         refine AL.any (rs := [13]) (by kernel_rfl) (by decide) ?_
         refine ALs.cons0 (i := 13) rfl (Runs.free rfl) rfl ?_ ?_
         ·
          refine os_store (i := 8) (vs := [(.slice ao21 (l13 ++ ([x11] : List Cell)).length cap21)]) (cs' := [(.slice ao21 (l13 ++ ([x11] : List Cell)).length cap21), (.slice ao17 l14.length cap17), (.slice ao18 l15.length cap18), (.slice ao19 l16.length cap19), (.slice ao20 l17.length cap20)]) sizeOf78 rfl rfl rfl rfl rfl rfl rfl rfl rfl ?_
          refine ⟨fun w' s => (s.sl [1, 7, 9]), ?_⟩
          refine AL.done (by kernel_rfl) ?_
          refine bn (tn (WP.region (V rfl (ov_add rfl rfl rfl) (Vm rfl (WL.nil (tn ?_))))))
          exact ⟨(IntKind.wrap .i64 (i4 + 1)), (l13 ++ ([x11] : List Cell)), ao21, cap21, (xs15 ++ [(.int .u8 x11.first), (.int .u8 x11.second)]), l14, ao17, cap17, xs16, l15, ao18, cap18, xs17, l16, ao19, cap19, xs18, l17, ao20, cap20, xs19, rl29, rl24, rl25, rl26, rl27, (Sub.all rfl), fun w' s => (s.sl [1, 2, 3, 4, 5, 6, 7, 8, 9]), hm⟩
         exact ALs.nil
        exact ALs.nil
       exact ALs.nil
      refine ALs.cons (i := 10) rfl (Runs.free rfl) rfl rfl ?_ ?_
      ·
       have rl28 : RL H encCell ([x11] : List Cell) [(.int .u8 x11.first), (.int .u8 x11.second)] := RL.cons (cs := [(.int .u8 x11.first), (.int .u8 x11.second)]) (xs := []) rfl (RL.nil _ _)
       refine os_buildSlice (cs := [(.int .u8 x11.first), (.int .u8 x11.second)]) (E := 80) (sz := 2) rfl rfl (fun _ => by kernel_rfl) rfl (by decide) (fun b7 => ?_)
       refine ⟨fun w' s => (s.sl [1, 7, 9]), ?_⟩
       refine AL.any (rs := [5]) (by kernel_rfl) (by decide) ?_
       refine ALs.cons (i := 5) rfl (Runs.free rfl) rfl rfl ?_ ?_
       ·
        refine OQ.step (OV.quiet (ov_load_box (i := 8) isAgg78 rfl rfl rfl rfl)) ?_
        refine ⟨fun w' s => (s.sl [1, 7, 9]), ?_⟩
        refine AL.any (rs := [11]) (by kernel_rfl) (by decide) ?_
        refine ALs.cons (i := 11) rfl (Runs.free rfl) rfl rfl ?_ ?_
        ·
         obtain ⟨l18, e21, hm⟩ := bind_some hm
         refine os_app (i := 6) (j := 0) (En := encCell) (xs := xs15) (ys := [(.int .u8 x11.first), (.int .u8 x11.second)]) underlying78 (by kernel_rfl : (prog.info? 80).map (fun i => (i.zero, i.size, i.bytes)) = some (some (.agg #[(.int .u8 0), (.int .u8 0)]), (encCell).size, 2)) rfl (by decide) rfl rfl rfl rfl rfl rfl rl23 rl28 e21 (fun ao21 cap21 rl29 => ?_)
         refine ⟨fun w' s => (s.sl [1, 7, 9]), ?_⟩
         refine TQ' 12 rfl (ov_indexAddr_bsl (j := 0) underlying76 sizeOf78 rfl rfl rfl (eq_of_beq hc8) rfl) ?_
         refine AL.any (rs := [13]) (by kernel_rfl) (by decide) ?_
         refine ALs.cons0 (i := 13) rfl (Runs.free rfl) rfl ?_ ?_
         ·
          refine os_store (i := 8) (vs := [(.slice ao21 (l13 ++ ([x11] : List Cell)).length cap21)]) (cs' := [(.slice ao21 (l13 ++ ([x11] : List Cell)).length cap21), (.slice ao17 l14.length cap17), (.slice ao18 l15.length cap18), (.slice ao19 l16.length cap19), (.slice ao20 l17.length cap20)]) sizeOf78 rfl rfl rfl rfl rfl rfl rfl rfl rfl ?_
          refine ⟨fun w' s => (s.sl [1, 7, 9]), ?_⟩
          refine AL.done (by kernel_rfl) ?_
          refine bn (tn (WP.region (V rfl (ov_add rfl rfl rfl) (Vm rfl (WL.nil (tn ?_))))))
          exact ⟨(IntKind.wrap .i64 (i4 + 1)), (l13 ++ ([x11] : List Cell)), ao21, cap21, (xs15 ++ [(.int .u8 x11.first), (.int .u8 x11.second)]), l14, ao17, cap17, xs16, l15, ao18, cap18, xs17, l16, ao19, cap19, xs18, l17, ao20, cap20, xs19, rl29, rl24, rl25, rl26, rl27, (Sub.all rfl), fun w' s => (s.sl [1, 2, 3, 4, 5, 6, 7, 8, 9]), hm⟩
         exact ALs.nil
        exact ALs.nil
       exact ALs.nil
      exact ALs.nil
     replace hm := ite_f hc8 hm
     rcases Bool.eq_false_or_eq_true (i4 == 1) with hc9 | hc9
     ·
      replace hm := ite_t hc9 hm
      refine TQ' 4 rfl (ov_indexAddr_bsl (j := 1) underlying76 sizeOf78 rfl rfl rfl (eq_of_beq hc9) rfl) (TQ' 6 rfl (ov_move rfl rfl) (TQ' 7 rfl (ov_move rfl rfl) ?_))
      obtain ⟨x12, e22, hm⟩ := bind_some hm
      obtain ⟨h74, h75, h76, cs15, h77, h78⟩ := RL.get rl22 e22
      obtain rfl : cs15 = [(.int .u8 x12.first), (.int .u8 x12.second)] := h77
      refine TQ' 8 rfl (ov_indexAddr_own (i := 0) underlying78 sizeOf80 rfl rfl rfl rfl h74 h75) (TQ' 9 rfl (ov_load_owns (i := 0) (vs := [(.int .u8 x12.first), (.int .u8 x12.second)]) isAgg80 sizeOf80 rfl rfl rfl (own_pos h74 h75) rfl (fun j u hu => elem_cell h78 hu)) ?_)
      refine AL.any (rs := [5, 10]) (by kernel_rfl) (by decide) ?_
      refine ALs.cons (i := 5) rfl (Runs.free rfl) rfl rfl ?_ ?_
      ·
       refine OQ.step (OV.quiet (ov_load_box (i := 7) isAgg78 rfl rfl rfl rfl)) ?_
       refine ⟨fun w' s => (s.sl [0, 6, 8]), ?_⟩
       refine AL.any (rs := [10]) (by kernel_rfl) (by decide) ?_
       refine ALs.cons (i := 10) rfl (Runs.free rfl) rfl rfl ?_ ?_
       ·
        have rl30 : RL H encCell ([x12] : List Cell) [(.int .u8 x12.first), (.int .u8 x12.second)] := RL.cons (cs := [(.int .u8 x12.first), (.int .u8 x12.second)]) (xs := []) rfl (RL.nil _ _)
        refine os_buildSlice (cs := [(.int .u8 x12.first), (.int .u8 x12.second)]) (E := 80) (sz := 2) rfl rfl (fun _ => by kernel_rfl) rfl (by decide) (fun b8 => ?_)
        refine ⟨fun w' s => (s.sl [1, 7, 9]), ?_⟩
        refine AL.any (rs := [11]) (by kernel_rfl) (by decide) ?_
        refine ALs.cons (i := 11) rfl (Runs.free rfl) rfl rfl ?_ ?_
        ·
         obtain ⟨l19, e23, hm⟩ := bind_some hm
         refine os_app (i := 5) (j := 0) (En := encCell) (xs := xs16) (ys := [(.int .u8 x12.first), (.int .u8 x12.second)]) underlying78 (by kernel_rfl : (prog.info? 80).map (fun i => (i.zero, i.size, i.bytes)) = some (some (.agg #[(.int .u8 0), (.int .u8 0)]), (encCell).size, 2)) rfl (by decide) rfl rfl rfl rfl rfl rfl rl24 rl30 e23 (fun ao22 cap22 rl31 => ?_)
         refine ⟨fun w' s => (s.sl [1, 7, 9]), ?_⟩
         refine TQ' 12 rfl (ov_indexAddr_bsl (j := 1) underlying76 sizeOf78 rfl rfl rfl (eq_of_beq hc9) rfl) ?_
         refine AL.any (rs := [13]) (by kernel_rfl) (by decide) ?_
         refine ALs.cons0 (i := 13) rfl (Runs.free rfl) rfl ?_ ?_
         ·
          refine os_store (i := 8) (vs := [(.slice ao22 (l14 ++ ([x12] : List Cell)).length cap22)]) (cs' := [(.slice ao16 l13.length cap16), (.slice ao22 (l14 ++ ([x12] : List Cell)).length cap22), (.slice ao18 l15.length cap18), (.slice ao19 l16.length cap19), (.slice ao20 l17.length cap20)]) sizeOf78 rfl rfl rfl rfl rfl rfl rfl rfl rfl ?_
          refine ⟨fun w' s => (s.sl [1, 7, 9]), ?_⟩
          refine AL.done (by kernel_rfl) ?_
          refine bn (tn (WP.region (V rfl (ov_add rfl rfl rfl) (Vm rfl (WL.nil (tn ?_))))))
          exact ⟨(IntKind.wrap .i64 (i4 + 1)), l13, ao16, cap16, xs15, (l14 ++ ([x12] : List Cell)), ao22, cap22, (xs16 ++ [(.int .u8 x12.first), (.int .u8 x12.second)]), l15, ao18, cap18, xs17, l16, ao19, cap19, xs18, l17, ao20, cap20, xs19, rl23, rl31, rl25, rl26, rl27, (Sub.all rfl), fun w' s => (s.sl [1, 2, 3, 4, 5, 6, 7, 8, 9]), hm⟩
         exact ALs.nil
        exact ALs.nil
       exact ALs.nil
      refine ALs.cons (i := 10) rfl (Runs.free rfl) rfl rfl ?_ ?_
      ·
       have rl30 : RL H encCell ([x12] : List Cell) [(.int .u8 x12.first), (.int .u8 x12.second)] := RL.cons (cs := [(.int .u8 x12.first), (.int .u8 x12.second)]) (xs := []) rfl (RL.nil _ _)
       refine os_buildSlice (cs := [(.int .u8 x12.first), (.int .u8 x12.second)]) (E := 80) (sz := 2) rfl rfl (fun _ => by kernel_rfl) rfl (by decide) (fun b8 => ?_)
       refine ⟨fun w' s => (s.sl [1, 7, 9]), ?_⟩
       refine AL.any (rs := [5]) (by kernel_rfl) (by decide) ?_
       refine ALs.cons (i := 5) rfl (Runs.free rfl) rfl rfl ?_ ?_
       ·
        refine OQ.step (OV.quiet (ov_load_box (i := 8) isAgg78 rfl rfl rfl rfl)) ?_
        refine ⟨fun w' s => (s.sl [1, 7, 9]), ?_⟩
        refine AL.any (rs := [11]) (by kernel_rfl) (by decide) ?_
        refine ALs.cons (i := 11) rfl (Runs.free rfl) rfl rfl ?_ ?_
        ·
         obtain ⟨l19, e23, hm⟩ := bind_some hm
         refine os_app (i := 5) (j := 0) (En := encCell) (xs := xs16) (ys := [(.int .u8 x12.first), (.int .u8 x12.second)]) underlying78 (by kernel_rfl : (prog.info? 80).map (fun i => (i.zero, i.size, i.bytes)) = some (some (.agg #[(.int .u8 0), (.int .u8 0)]), (encCell).size, 2)) rfl (by decide) rfl rfl rfl rfl rfl rfl rl24 rl30 e23 (fun ao22 cap22 rl31 => ?_)
         refine ⟨fun w' s => (s.sl [1, 7, 9]), ?_⟩
         refine TQ' 12 rfl (ov_indexAddr_bsl (j := 1) underlying76 sizeOf78 rfl rfl rfl (eq_of_beq hc9) rfl) ?_
         refine AL.any (rs := [13]) (by kernel_rfl) (by decide) ?_
         refine ALs.cons0 (i := 13) rfl (Runs.free rfl) rfl ?_ ?_
         ·
          refine os_store (i := 8) (vs := [(.slice ao22 (l14 ++ ([x12] : List Cell)).length cap22)]) (cs' := [(.slice ao16 l13.length cap16), (.slice ao22 (l14 ++ ([x12] : List Cell)).length cap22), (.slice ao18 l15.length cap18), (.slice ao19 l16.length cap19), (.slice ao20 l17.length cap20)]) sizeOf78 rfl rfl rfl rfl rfl rfl rfl rfl rfl ?_
          refine ⟨fun w' s => (s.sl [1, 7, 9]), ?_⟩
          refine AL.done (by kernel_rfl) ?_
          refine bn (tn (WP.region (V rfl (ov_add rfl rfl rfl) (Vm rfl (WL.nil (tn ?_))))))
          exact ⟨(IntKind.wrap .i64 (i4 + 1)), l13, ao16, cap16, xs15, (l14 ++ ([x12] : List Cell)), ao22, cap22, (xs16 ++ [(.int .u8 x12.first), (.int .u8 x12.second)]), l15, ao18, cap18, xs17, l16, ao19, cap19, xs18, l17, ao20, cap20, xs19, rl23, rl31, rl25, rl26, rl27, (Sub.all rfl), fun w' s => (s.sl [1, 2, 3, 4, 5, 6, 7, 8, 9]), hm⟩
         exact ALs.nil
        exact ALs.nil
       exact ALs.nil
      exact ALs.nil
     replace hm := ite_f hc9 hm
     rcases Bool.eq_false_or_eq_true (i4 == 2) with hc10 | hc10
     ·
      replace hm := ite_t hc10 hm
      refine TQ' 4 rfl (ov_indexAddr_bsl (j := 2) underlying76 sizeOf78 rfl rfl rfl (eq_of_beq hc10) rfl) (TQ' 6 rfl (ov_move rfl rfl) (TQ' 7 rfl (ov_move rfl rfl) ?_))
      obtain ⟨x13, e24, hm⟩ := bind_some hm
      obtain ⟨h79, h80, h81, cs16, h82, h83⟩ := RL.get rl22 e24
      obtain rfl : cs16 = [(.int .u8 x13.first), (.int .u8 x13.second)] := h82
      refine TQ' 8 rfl (ov_indexAddr_own (i := 0) underlying78 sizeOf80 rfl rfl rfl rfl h79 h80) (TQ' 9 rfl (ov_load_owns (i := 0) (vs := [(.int .u8 x13.first), (.int .u8 x13.second)]) isAgg80 sizeOf80 rfl rfl rfl (own_pos h79 h80) rfl (fun j u hu => elem_cell h83 hu)) ?_)
      refine AL.any (rs := [5, 10]) (by kernel_rfl) (by decide) ?_
      refine ALs.cons (i := 5) rfl (Runs.free rfl) rfl rfl ?_ ?_
      ·
       refine OQ.step (OV.quiet (ov_load_box (i := 7) isAgg78 rfl rfl rfl rfl)) ?_
       refine ⟨fun w' s => (s.sl [0, 6, 8]), ?_⟩
       refine AL.any (rs := [10]) (by kernel_rfl) (by decide) ?_
       refine ALs.cons (i := 10) rfl (Runs.free rfl) rfl rfl ?_ ?_
       ·
        have rl32 : RL H encCell ([x13] : List Cell) [(.int .u8 x13.first), (.int .u8 x13.second)] := RL.cons (cs := [(.int .u8 x13.first), (.int .u8 x13.second)]) (xs := []) rfl (RL.nil _ _)
        refine os_buildSlice (cs := [(.int .u8 x13.first), (.int .u8 x13.second)]) (E := 80) (sz := 2) rfl rfl (fun _ => by kernel_rfl) rfl (by decide) (fun b9 => ?_)
        refine ⟨fun w' s => (s.sl [1, 7, 9]), ?_⟩
        refine AL.any (rs := [11]) (by kernel_rfl) (by decide) ?_
        refine ALs.cons (i := 11) rfl (Runs.free rfl) rfl rfl ?_ ?_
        ·
         obtain ⟨l20, e25, hm⟩ := bind_some hm
         refine os_app (i := 4) (j := 0) (En := encCell) (xs := xs17) (ys := [(.int .u8 x13.first), (.int .u8 x13.second)]) underlying78 (by kernel_rfl : (prog.info? 80).map (fun i => (i.zero, i.size, i.bytes)) = some (some (.agg #[(.int .u8 0), (.int .u8 0)]), (encCell).size, 2)) rfl (by decide) rfl rfl rfl rfl rfl rfl rl25 rl32 e25 (fun ao23 cap23 rl33 => ?_)
         refine ⟨fun w' s => (s.sl [1, 7, 9]), ?_⟩
         refine TQ' 12 rfl (ov_indexAddr_bsl (j := 2) underlying76 sizeOf78 rfl rfl rfl (eq_of_beq hc10) rfl) ?_
         refine AL.any (rs := [13]) (by kernel_rfl) (by decide) ?_
         refine ALs.cons0 (i := 13) rfl (Runs.free rfl) rfl ?_ ?_
         ·
          refine os_store (i := 8) (vs := [(.slice ao23 (l15 ++ ([x13] : List Cell)).length cap23)]) (cs' := [(.slice ao16 l13.length cap16), (.slice ao17 l14.length cap17), (.slice ao23 (l15 ++ ([x13] : List Cell)).length cap23), (.slice ao19 l16.length cap19), (.slice ao20 l17.length cap20)]) sizeOf78 rfl rfl rfl rfl rfl rfl rfl rfl rfl ?_
          refine ⟨fun w' s => (s.sl [1, 7, 9]), ?_⟩
          refine AL.done (by kernel_rfl) ?_
          refine bn (tn (WP.region (V rfl (ov_add rfl rfl rfl) (Vm rfl (WL.nil (tn ?_))))))
          exact ⟨(IntKind.wrap .i64 (i4 + 1)), l13, ao16, cap16, xs15, l14, ao17, cap17, xs16, (l15 ++ ([x13] : List Cell)), ao23, cap23, (xs17 ++ [(.int .u8 x13.first), (.int .u8 x13.second)]), l16, ao19, cap19, xs18, l17, ao20, cap20, xs19, rl23, rl24, rl33, rl26, rl27, (Sub.all rfl), fun w' s => (s.sl [1, 2, 3, 4, 5, 6, 7, 8, 9]), hm⟩
         exact ALs.nil
        exact ALs.nil
       exact ALs.nil
      refine ALs.cons (i := 10) rfl (Runs.free rfl) rfl rfl ?_ ?_
      ·
       have rl32 : RL H encCell ([x13] : List Cell) [(.int .u8 x13.first), (.int .u8 x13.second)] := RL.cons (cs := [(.int .u8 x13.first), (.int .u8 x13.second)]) (xs := []) rfl (RL.nil _ _)
       refine os_buildSlice (cs := [(.int .u8 x13.first), (.int .u8 x13.second)]) (E := 80) (sz := 2) rfl rfl (fun _ => by kernel_rfl) rfl (by decide) (fun b9 => ?_)
       refine ⟨fun w' s => (s.sl [1, 7, 9]), ?_⟩
       refine AL.any (rs := [5]) (by kernel_rfl) (by decide) ?_
       refine ALs.cons (i := 5) rfl (Runs.free rfl) rfl rfl ?_ ?_
       ·
        refine OQ.step (OV.quiet (ov_load_box (i := 8) isAgg78 rfl rfl rfl rfl)) ?_
        refine ⟨fun w' s => (s.sl [1, 7, 9]), ?_⟩
        refine AL.any (rs := [11]) (by kernel_rfl) (by decide) ?_
        refine ALs.cons (i := 11) rfl (Runs.free rfl) rfl rfl ?_ ?_
        ·
         obtain ⟨l20, e25, hm⟩ := bind_some hm
         refine os_app (i := 4) (j := 0) (En := encCell) (xs := xs17) (ys := [(.int .u8 x13.first), (.int .u8 x13.second)]) underlying78 (by kernel_rfl : (prog.info? 80).map (fun i => (i.zero, i.size, i.bytes)) = some (some (.agg #[(.int .u8 0), (.int .u8 0)]), (encCell).size, 2)) rfl (by decide) rfl rfl rfl rfl rfl rfl rl25 rl32 e25 (fun ao23 cap23 rl33 => ?_)
         refine ⟨fun w' s => (s.sl [1, 7, 9]), ?_⟩
         refine TQ' 12 rfl (ov_indexAddr_bsl (j := 2) underlying76 sizeOf78 rfl rfl rfl (eq_of_beq hc10) rfl) ?_
         refine AL.any (rs := [13]) (by kernel_rfl) (by decide) ?_
         refine ALs.cons0 (i := 13) rfl (Runs.free rfl) rfl ?_ ?_
         ·
          refine os_store (i := 8) (vs := [(.slice ao23 (l15 ++ ([x13] : List Cell)).length cap23)]) (cs' := [(.slice ao16 l13.length cap16), (.slice ao17 l14.length cap17), (.slice ao23 (l15 ++ ([x13] : List Cell)).length cap23), (.slice ao19 l16.length cap19), (.slice ao20 l17.length cap20)]) sizeOf78 rfl rfl rfl rfl rfl rfl rfl rfl rfl ?_
          refine ⟨fun w' s => (s.sl [1, 7, 9]), ?_⟩
          refine AL.done (by kernel_rfl) ?_
          refine bn (tn (WP.region (V rfl (ov_add rfl rfl rfl) (Vm rfl (WL.nil (tn ?_))))))
          exact ⟨(IntKind.wrap .i64 (i4 + 1)), l13, ao16, cap16, xs15, l14, ao17, cap17, xs16, (l15 ++ ([x13] : List Cell)), ao23, cap23, (xs17 ++ [(.int .u8 x13.first), (.int .u8 x13.second)]), l16, ao19, cap19, xs18, l17, ao20, cap20, xs19, rl23, rl24, rl33, rl26, rl27, (Sub.all rfl), fun w' s => (s.sl [1, 2, 3, 4, 5, 6, 7, 8, 9]), hm⟩
         exact ALs.nil
        exact ALs.nil
       exact ALs.nil
      exact ALs.nil
     replace hm := ite_f hc10 hm
     rcases Bool.eq_false_or_eq_true (i4 == 3) with hc11 | hc11
     ·
      replace hm := ite_t hc11 hm
      refine TQ' 4 rfl (ov_indexAddr_bsl (j := 3) underlying76 sizeOf78 rfl rfl rfl (eq_of_beq hc11) rfl) (TQ' 6 rfl (ov_move rfl rfl) (TQ' 7 rfl (ov_move rfl rfl) ?_))
      obtain ⟨x14, e26, hm⟩ := bind_some hm
      obtain ⟨h84, h85, h86, cs17, h87, h88⟩ := RL.get rl22 e26
      obtain rfl : cs17 = [(.int .u8 x14.first), (.int .u8 x14.second)] := h87
      refine TQ' 8 rfl (ov_indexAddr_own (i := 0) underlying78 sizeOf80 rfl rfl rfl rfl h84 h85) (TQ' 9 rfl (ov_load_owns (i := 0) (vs := [(.int .u8 x14.first), (.int .u8 x14.second)]) isAgg80 sizeOf80 rfl rfl rfl (own_pos h84 h85) rfl (fun j u hu => elem_cell h88 hu)) ?_)
      refine AL.any (rs := [5, 10]) (by kernel_rfl) (by decide) ?_
      refine ALs.cons (i := 5) rfl (Runs.free rfl) rfl rfl ?_ ?_
      ·
       refine OQ.step (OV.quiet (ov_load_box (i := 7) isAgg78 rfl rfl rfl rfl)) ?_
       refine ⟨fun w' s => (s.sl [0, 6, 8]), ?_⟩
       refine AL.any (rs := [10]) (by kernel_rfl) (by decide) ?_
       refine ALs.cons (i := 10) rfl (Runs.free rfl) rfl rfl ?_ ?_
       ·
        have rl34 : RL H encCell ([x14] : List Cell) [(.int .u8 x14.first), (.int .u8 x14.second)] := RL.cons (cs := [(.int .u8 x14.first), (.int .u8 x14.second)]) (xs := []) rfl (RL.nil _ _)
        refine os_buildSlice (cs := [(.int .u8 x14.first), (.int .u8 x14.second)]) (E := 80) (sz := 2) rfl rfl (fun _ => by kernel_rfl) rfl (by decide) (fun b10 => ?_)
        refine ⟨fun w' s => (s.sl [1, 7, 9]), ?_⟩
        refine AL.any (rs := [11]) (by kernel_rfl) (by decide) ?_
        refine ALs.cons (i := 11) rfl (Runs.free rfl) rfl rfl ?_ ?_
        ·
         obtain ⟨l21, e27, hm⟩ := bind_some hm
         refine os_app (i := 3) (j := 0) (En := encCell) (xs := xs18) (ys := [(.int .u8 x14.first), (.int .u8 x14.second)]) underlying78 (by kernel_rfl : (prog.info? 80).map (fun i => (i.zero, i.size, i.bytes)) = some (some (.agg #[(.int .u8 0), (.int .u8 0)]), (encCell).size, 2)) rfl (by decide) rfl rfl rfl rfl rfl rfl rl26 rl34 e27 (fun ao24 cap24 rl35 => ?_)
         refine ⟨fun w' s => (s.sl [1, 7, 9]), ?_⟩
         refine TQ' 12 rfl (ov_indexAddr_bsl (j := 3) underlying76 sizeOf78 rfl rfl rfl (eq_of_beq hc11) rfl) ?_
         refine AL.any (rs := [13]) (by kernel_rfl) (by decide) ?_
         refine ALs.cons0 (i := 13) rfl (Runs.free rfl) rfl ?_ ?_
         ·
          refine os_store (i := 8) (vs := [(.slice ao24 (l16 ++ ([x14] : List Cell)).length cap24)]) (cs' := [(.slice ao16 l13.length cap16), (.slice ao17 l14.length cap17), (.slice ao18 l15.length cap18), (.slice ao24 (l16 ++ ([x14] : List Cell)).length cap24), (.slice ao20 l17.length cap20)]) sizeOf78 rfl rfl rfl rfl rfl rfl rfl rfl rfl ?_
          refine ⟨fun w' s => (s.sl [1, 7, 9]), ?_⟩
          refine AL.done (by kernel_rfl) ?_
          refine bn (tn (WP.region (V rfl (ov_add rfl rfl rfl) (Vm rfl (WL.nil (tn ?_))))))
          exact ⟨(IntKind.wrap .i64 (i4 + 1)), l13, ao16, cap16, xs15, l14, ao17, cap17, xs16, l15, ao18, cap18, xs17, (l16 ++ ([x14] : List Cell)), ao24, cap24, (xs18 ++ [(.int .u8 x14.first), (.int .u8 x14.second)]), l17, ao20, cap20, xs19, rl23, rl24, rl25, rl35, rl27, (Sub.all rfl), fun w' s => (s.sl [1, 2, 3, 4, 5, 6, 7, 8, 9]), hm⟩
         exact ALs.nil
        exact ALs.nil
       exact ALs.nil
      refine ALs.cons (i := 10) rfl (Runs.free rfl) rfl rfl ?_ ?_
      ·
       have rl34 : RL H encCell ([x14] : List Cell) [(.int .u8 x14.first), (.int .u8 x14.second)] := RL.cons (cs := [(.int .u8 x14.first), (.int .u8 x14.second)]) (xs := []) rfl (RL.nil _ _)
       refine os_buildSlice (cs := [(.int .u8 x14.first), (.int .u8 x14.second)]) (E := 80) (sz := 2) rfl rfl (fun _ => by kernel_rfl) rfl (by decide) (fun b10 => ?_)
       refine ⟨fun w' s => (s.sl [1, 7, 9]), ?_⟩
       refine AL.any (rs := [5]) (by kernel_rfl) (by decide) ?_
       refine ALs.cons (i := 5) rfl (Runs.free rfl) rfl rfl ?_ ?_
       ·
        refine OQ.step (OV.quiet (ov_load_box (i := 8) isAgg78 rfl rfl rfl rfl)) ?_
        refine ⟨fun w' s => (s.sl [1, 7, 9]), ?_⟩
        refine AL.any (rs := [11]) (by kernel_rfl) (by decide) ?_
        refine ALs.cons (i := 11) rfl (Runs.free rfl) rfl rfl ?_ ?_
        ·
         obtain ⟨l21, e27, hm⟩ := bind_some hm
         refine os_app (i := 3) (j := 0) (En := encCell) (xs := xs18) (ys := [(.int .u8 x14.first), (.int .u8 x14.second)]) underlying78 (by kernel_rfl : (prog.info? 80).map (fun i => (i.zero, i.size, i.bytes)) = some (some (.agg #[(.int .u8 0), (.int .u8 0)]), (encCell).size, 2)) rfl (by decide) rfl rfl rfl rfl rfl rfl rl26 rl34 e27 (fun ao24 cap24 rl35 => ?_)
         refine ⟨fun w' s => (s.sl [1, 7, 9]), ?_⟩
         refine TQ' 12 rfl (ov_indexAddr_bsl (j := 3) underlying76 sizeOf78 rfl rfl rfl (eq_of_beq hc11) rfl) ?_
         refine AL.any (rs := [13]) (by kernel_rfl) (by decide) ?_
         refine ALs.cons0 (i := 13) rfl (Runs.free rfl) rfl ?_ ?_
         ·
          refine os_store (i := 8) (vs := [(.slice ao24 (l16 ++ ([x14] : List Cell)).length cap24)]) (cs' := [(.slice ao16 l13.length cap16), (.slice ao17 l14.length cap17), (.slice ao18 l15.length cap18), (.slice ao24 (l16 ++ ([x14] : List Cell)).length cap24), (.slice ao20 l17.length cap20)]) sizeOf78 rfl rfl rfl rfl rfl rfl rfl rfl rfl ?_
          refine ⟨fun w' s => (s.sl [1, 7, 9]), ?_⟩
          refine AL.done (by kernel_rfl) ?_
          refine bn (tn (WP.region (V rfl (ov_add rfl rfl rfl) (Vm rfl (WL.nil (tn ?_))))))
          exact ⟨(IntKind.wrap .i64 (i4 + 1)), l13, ao16, cap16, xs15, l14, ao17, cap17, xs16, l15, ao18, cap18, xs17, (l16 ++ ([x14] : List Cell)), ao24, cap24, (xs18 ++ [(.int .u8 x14.first), (.int .u8 x14.second)]), l17, ao20, cap20, xs19, rl23, rl24, rl25, rl35, rl27, (Sub.all rfl), fun w' s => (s.sl [1, 2, 3, 4, 5, 6, 7, 8, 9]), hm⟩
         exact ALs.nil
        exact ALs.nil
       exact ALs.nil
      exact ALs.nil
     replace hm := ite_f hc11 hm
     rcases Bool.eq_false_or_eq_true (i4 == 4) with hc12 | hc12
     ·
      replace hm := ite_t hc12 hm
      refine TQ' 4 rfl (ov_indexAddr_bsl (j := 4) underlying76 sizeOf78 rfl rfl rfl (eq_of_beq hc12) rfl) (TQ' 6 rfl (ov_move rfl rfl) (TQ' 7 rfl (ov_move rfl rfl) ?_))
      obtain ⟨x15, e28, hm⟩ := bind_some hm
      obtain ⟨h89, h90, h91, cs18, h92, h93⟩ := RL.get rl22 e28
      obtain rfl : cs18 = [(.int .u8 x15.first), (.int .u8 x15.second)] := h92
      refine TQ' 8 rfl (ov_indexAddr_own (i := 0) underlying78 sizeOf80 rfl rfl rfl rfl h89 h90) (TQ' 9 rfl (ov_load_owns (i := 0) (vs := [(.int .u8 x15.first), (.int .u8 x15.second)]) isAgg80 sizeOf80 rfl rfl rfl (own_pos h89 h90) rfl (fun j u hu => elem_cell h93 hu)) ?_)
      refine AL.any (rs := [5, 10]) (by kernel_rfl) (by decide) ?_
      refine ALs.cons (i := 5) rfl (Runs.free rfl) rfl rfl ?_ ?_
      ·
       refine OQ.step (OV.quiet (ov_load_box (i := 7) isAgg78 rfl rfl rfl rfl)) ?_
       refine ⟨fun w' s => (s.sl [0, 6, 8]), ?_⟩
       refine AL.any (rs := [10]) (by kernel_rfl) (by decide) ?_
       refine ALs.cons (i := 10) rfl (Runs.free rfl) rfl rfl ?_ ?_
       ·
        have rl36 : RL H encCell ([x15] : List Cell) [(.int .u8 x15.first), (.int .u8 x15.second)] := RL.cons (cs := [(.int .u8 x15.first), (.int .u8 x15.second)]) (xs := []) rfl (RL.nil _ _)
        refine os_buildSlice (cs := [(.int .u8 x15.first), (.int .u8 x15.second)]) (E := 80) (sz := 2) rfl rfl (fun _ => by kernel_rfl) rfl (by decide) (fun b11 => ?_)
        refine ⟨fun w' s => (s.sl [1, 7, 9]), ?_⟩
        refine AL.any (rs := [11]) (by kernel_rfl) (by decide) ?_
        refine ALs.cons (i := 11) rfl (Runs.free rfl) rfl rfl ?_ ?_
        ·
         obtain ⟨l22, e29, hm⟩ := bind_some hm
         refine os_app (i := 2) (j := 0) (En := encCell) (xs := xs19) (ys := [(.int .u8 x15.first), (.int .u8 x15.second)]) underlying78 (by kernel_rfl : (prog.info? 80).map (fun i => (i.zero, i.size, i.bytes)) = some (some (.agg #[(.int .u8 0), (.int .u8 0)]), (encCell).size, 2)) rfl (by decide) rfl rfl rfl rfl rfl rfl rl27 rl36 e29 (fun ao25 cap25 rl37 => ?_)
         refine ⟨fun w' s => (s.sl [1, 7, 9]), ?_⟩
         refine TQ' 12 rfl (ov_indexAddr_bsl (j := 4) underlying76 sizeOf78 rfl rfl rfl (eq_of_beq hc12) rfl) ?_
         refine AL.any (rs := [13]) (by kernel_rfl) (by decide) ?_
         refine ALs.cons0 (i := 13) rfl (Runs.free rfl) rfl ?_ ?_
         ·
          refine os_store (i := 8) (vs := [(.slice ao25 (l17 ++ ([x15] : List Cell)).length cap25)]) (cs' := [(.slice ao16 l13.length cap16), (.slice ao17 l14.length cap17), (.slice ao18 l15.length cap18), (.slice ao19 l16.length cap19), (.slice ao25 (l17 ++ ([x15] : List Cell)).length cap25)]) sizeOf78 rfl rfl rfl rfl rfl rfl rfl rfl rfl ?_
          refine ⟨fun w' s => (s.sl [1, 7, 9]), ?_⟩
          refine AL.done (by kernel_rfl) ?_
          refine bn (tn (WP.region (V rfl (ov_add rfl rfl rfl) (Vm rfl (WL.nil (tn ?_))))))
          exact ⟨(IntKind.wrap .i64 (i4 + 1)), l13, ao16, cap16, xs15, l14, ao17, cap17, xs16, l15, ao18, cap18, xs17, l16, ao19, cap19, xs18, (l17 ++ ([x15] : List Cell)), ao25, cap25, (xs19 ++ [(.int .u8 x15.first), (.int .u8 x15.second)]), rl23, rl24, rl25, rl26, rl37, (Sub.all rfl), fun w' s => (s.sl [1, 2, 3, 4, 5, 6, 7, 8, 9]), hm⟩
         exact ALs.nil
        exact ALs.nil
       exact ALs.nil
      refine ALs.cons (i := 10) rfl (Runs.free rfl) rfl rfl ?_ ?_
      ·
       have rl36 : RL H encCell ([x15] : List Cell) [(.int .u8 x15.first), (.int .u8 x15.second)] := RL.cons (cs := [(.int .u8 x15.first), (.int .u8 x15.second)]) (xs := []) rfl (RL.nil _ _)
       refine os_buildSlice (cs := [(.int .u8 x15.first), (.int .u8 x15.second)]) (E := 80) (sz := 2) rfl rfl (fun _ => by kernel_rfl) rfl (by decide) (fun b11 => ?_)
       refine ⟨fun w' s => (s.sl [1, 7, 9]), ?_⟩
       refine AL.any (rs := [5]) (by kernel_rfl) (by decide) ?_
       refine ALs.cons (i := 5) rfl (Runs.free rfl) rfl rfl ?_ ?_
       ·
        refine OQ.step (OV.quiet (ov_load_box (i := 8) isAgg78 rfl rfl rfl rfl)) ?_
        refine ⟨fun w' s => (s.sl [1, 7, 9]), ?_⟩
        refine AL.any (rs := [11]) (by kernel_rfl) (by decide) ?_
        refine ALs.cons (i := 11) rfl (Runs.free rfl) rfl rfl ?_ ?_
        ·
         obtain ⟨l22, e29, hm⟩ := bind_some hm
         refine os_app (i := 2) (j := 0) (En := encCell) (xs := xs19) (ys := [(.int .u8 x15.first), (.int .u8 x15.second)]) underlying78 (by kernel_rfl : (prog.info? 80).map (fun i => (i.zero, i.size, i.bytes)) = some (some (.agg #[(.int .u8 0), (.int .u8 0)]), (encCell).size, 2)) rfl (by decide) rfl rfl rfl rfl rfl rfl rl27 rl36 e29 (fun ao25 cap25 rl37 => ?_)
         refine ⟨fun w' s => (s.sl [1, 7, 9]), ?_⟩
         refine TQ' 12 rfl (ov_indexAddr_bsl (j := 4) underlying76 sizeOf78 rfl rfl rfl (eq_of_beq hc12) rfl) ?_
         refine AL.any (rs := [13]) (by kernel_rfl) (by decide) ?_
         refine ALs.cons0 (i := 13) rfl (Runs.free rfl) rfl ?_ ?_
         ·
          refine os_store (i := 8) (vs := [(.slice ao25 (l17 ++ ([x15] : List Cell)).length cap25)]) (cs' := [(.slice ao16 l13.length cap16), (.slice ao17 l14.length cap17), (.slice ao18 l15.length cap18), (.slice ao19 l16.length cap19), (.slice ao25 (l17 ++ ([x15] : List Cell)).length cap25)]) sizeOf78 rfl rfl rfl rfl rfl rfl rfl rfl rfl ?_
          refine ⟨fun w' s => (s.sl [1, 7, 9]), ?_⟩
          refine AL.done (by kernel_rfl) ?_
          refine bn (tn (WP.region (V rfl (ov_add rfl rfl rfl) (Vm rfl (WL.nil (tn ?_))))))
          exact ⟨(IntKind.wrap .i64 (i4 + 1)), l13, ao16, cap16, xs15, l14, ao17, cap17, xs16, l15, ao18, cap18, xs17, l16, ao19, cap19, xs18, (l17 ++ ([x15] : List Cell)), ao25, cap25, (xs19 ++ [(.int .u8 x15.first), (.int .u8 x15.second)]), rl23, rl24, rl25, rl26, rl37, (Sub.all rfl), fun w' s => (s.sl [1, 2, 3, 4, 5, 6, 7, 8, 9]), hm⟩
         exact ALs.nil
        exact ALs.nil
       exact ALs.nil
      exact ALs.nil
     replace hm := ite_f hc12 hm
     exact (none_some hm).elim
    replace hm := ite_f hc7 hm
    refine WP.exit (then_exit (then_exit (block_here (bn (tn ?_)))))
    exact ⟨l11, ao14, cap14, xs13, l13, ao16, cap16, xs15, l14, ao17, cap17, xs16, l15, ao18, cap18, xs17, l16, ao19, cap19, xs18, l17, ao20, cap20, xs19, rl21, rl23, rl24, rl25, rl26, rl27, (Sub.all rfl), fun w' s => (s.sl [1, 2, 3, 4, 5, 6, 7, 8]), hm⟩
   rintro g' S' ⟨l23, ao26, cap26, xs20, l24, ao27, cap27, xs21, l25, ao28, cap28, xs22, l26, ao29, cap29, xs23, l27, ao30, cap30, xs24, l28, ao31, cap31, xs25, rl38, rl39, rl40, rl41, rl42, rl43, hsub7, hS7, hm⟩
   refine WP.sub hsub7 (WP.weaken hS7 ?_)
   replace hm := (congrFun (congrFun (congrFun (congrFun (congrFun (congrFun hk2 l23) l24) l25) l26) l27) l28).symm.trans hm
   refine WP.region (V rfl (ov_add rfl rfl rfl) (Vm rfl (WL.nil (tn ?_))))
   exact ⟨(IntKind.wrap .i64 (i1 + 1)), l23, ao26, cap26, xs20, l24, ao27, cap27, xs21, l25, ao28, cap28, xs22, l26, ao29, cap29, xs23, l27, ao30, cap30, xs24, l28, ao31, cap31, xs25, rl38, rl39, rl40, rl41, rl42, rl43, (Sub.all rfl), fun w' s => s, hm⟩
  replace hm := ite_f hc3 hm
  refine WP.exit (then_exit (then_exit (block_here (tn ?_))))
  exact ⟨l2, ao4, cap4, xs3, l3, ao5, cap5, xs4, l4, ao6, cap6, xs5, l5, ao7, cap7, xs6, l6, ao8, cap8, xs7, rl8, rl9, rl10, rl11, rl12, (Sub.all rfl), fun w' s => (s.sl [0, 1, 2, 3, 4, 6]), hm⟩
 rintro g' S' ⟨l29, ao32, cap32, xs26, l30, ao33, cap33, xs27, l31, ao34, cap34, xs28, l32, ao35, cap35, xs29, l33, ao36, cap36, xs30, rl44, rl45, rl46, rl47, rl48, hsub8, hS8, hm⟩
 refine WP.sub hsub8 (WP.weaken hS8 ?_)
 replace hm := (congrFun (congrFun (congrFun (congrFun (congrFun hk1 l29) l30) l31) l32) l33).symm.trans hm
 refine WP.seq (WP.region (Vm rfl ?_))
 refine WL.weaken (fun _ s => s.sl [4, 0, 1, 2, 3, 5]) ?_
 refine WL.held rl44 (fun H1 hc13 hle1 h94 => ?_)
 replace rl48 := rl48.mono hle1
 replace rl47 := rl47.mono hle1
 replace rl46 := rl46.mono hle1
 replace rl45 := rl45.mono hle1
 refine WL.weaken (fun _ s => s.sl [3, 0, 1, 2, 4]) ?_
 refine WL.held rl45 (fun H2 hc14 hle2 h95 => ?_)
 replace rl48 := rl48.mono hle2
 replace rl47 := rl47.mono hle2
 replace rl46 := rl46.mono hle2
 replace h94 := h94.mono hle2
 refine WL.weaken (fun _ s => s.sl [2, 0, 1, 3]) ?_
 refine WL.held rl46 (fun H3 hc15 hle3 h96 => ?_)
 replace rl48 := rl48.mono hle3
 replace rl47 := rl47.mono hle3
 replace h94 := h94.mono hle3
 replace h95 := h95.mono hle3
 refine WL.weaken (fun _ s => s.sl [1, 0, 2]) ?_
 refine WL.held rl47 (fun H4 hc16 hle4 h97 => ?_)
 replace rl48 := rl48.mono hle4
 replace h94 := h94.mono hle4
 replace h95 := h95.mono hle4
 replace h96 := h96.mono hle4
 refine WL.held rl48 (fun H5 hc17 hle5 h98 => ?_)
 replace h94 := h94.mono hle5
 replace h95 := h95.mono hle5
 replace h96 := h96.mono hle5
 replace h97 := h97.mono hle5
 have rl49 : RL H5 (encSl encCell) ([l29, l30, l31, l32, l33] : List (List Cell)) [(.slice ao32 l29.length cap32), (.slice ao33 l30.length cap33), (.slice ao34 l31.length cap34), (.slice ao35 l32.length cap35), (.slice ao36 l33.length cap36)] := RL.cons (cs := [(.slice ao32 l29.length cap32)]) (xs := [(.slice ao33 l30.length cap33), (.slice ao34 l31.length cap34), (.slice ao35 l32.length cap35), (.slice ao36 l33.length cap36)]) ⟨ao32, cap32, rfl, h94, hc13⟩ (RL.cons (cs := [(.slice ao33 l30.length cap33)]) (xs := [(.slice ao34 l31.length cap34), (.slice ao35 l32.length cap35), (.slice ao36 l33.length cap36)]) ⟨ao33, cap33, rfl, h95, hc14⟩ (RL.cons (cs := [(.slice ao34 l31.length cap34)]) (xs := [(.slice ao35 l32.length cap35), (.slice ao36 l33.length cap36)]) ⟨ao34, cap34, rfl, h96, hc15⟩ (RL.cons (cs := [(.slice ao35 l32.length cap35)]) (xs := [(.slice ao36 l33.length cap36)]) ⟨ao35, cap35, rfl, h97, hc16⟩ (RL.cons (cs := [(.slice ao36 l33.length cap36)]) (xs := []) ⟨ao36, cap36, rfl, h98, hc17⟩ (RL.nil _ _)))))
 refine WL.weaken (fun _ s => s.blk_rowN (N := 5) (sz := 1) rfl (by decide)) ?_
 refine Va rfl (WL.nil (tn (WP.ret ?_)))
 obtain rfl := Option.some.inj hm
 refine retQ_ret results43 (Res.tmp rfl Res.nil) rfl (fun w' s => ⟨s.below, ?_⟩)
 obtain ⟨h99, hc18⟩ := s.ret_row (i := 0) rfl rl49
 exact ⟨(some ⟨b2, 0, none⟩), 5, rfl, h99, hc18⟩
end Go.Proofs.YtbckcjjffbgidaaGreatDoor.W
