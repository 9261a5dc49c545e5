/- The walks. Written by our own program gen.py; Lean checks it. -/
import Derived.Test.YtbckcjjffbgidaaGreatDoorPlain
import Derived.Test.YtbckcjjffbgidaaGreatDoorEqs
import Derived.Test.YtbckcjjffbgidaaGreatDoorProg
import Derived.Test.YtbckcjjffbgidaaGreatDoorExt
import Derived.Test.YtbckcjjffbgidaaGreatDoorBuild
import Derived.Test.YtbckcjjffbgidaaGreatDoorClone
import Derived.Test.YtbckcjjffbgidaaGreatDoorWalk0
set_option linter.unusedVariables false
set_option maxRecDepth 100000
set_option maxHeartbeats 4000000
namespace Go.Proofs.YtbckcjjffbgidaaGreatDoor.W
open Go Go.RowKit Go.Proofs.Tryz
theorem diagram_cells1_con (p_s : Sequence) (ao1 : Option Addr) (cap1 : Nat) (w : World) (H : Heap) (hH : Le H (hp w)) (h1 : SL H encStep ao1 p_s.steps) (hc1 : p_s.steps.length ≤ cap1) (hG : Glob H) (hn : (p_s.actuators == 1) = true) (r : (List (List Cell))) (hm : diagram_cells1 p_s = some r) :
  Con prog 43 [(.agg #[(.int .i64 p_s.actuators), (.slice ao1 p_s.steps.length cap1)])] w H (fun v H' => ∃ (ao2 : Option Addr) (cap2 : Nat), v = (.slice ao2 r.length cap2) ∧ SL H' (encSl encCell) ao2 r ∧ r.length ≤ cap2) := by
 unfold diagram_cells1 at hm
 refine con_of hH func43 rfl 99 ntmps43 rfl ?_
 refine WP.seq (WP.region ?_)
 refine ws rfl (os_box (cs := [(.int .i64 p_s.actuators), (.slice ao1 p_s.steps.length cap1)]) rfl rfl rfl (fun b1 => ?_))
 refine Va rfl (WL.nil (tn (WP.seq (WP.region (V rfl (ov_fieldAddr underlying24 rfl rfl rfl sizeOf3 rfl rfl) (Vl 0 isAgg3 rfl ?_))))))
 refine ws rfl (os_makeSlice_n (N := 1) (sz := 1) (bytes := 24) (z := (.slice none 0 0)) (cs := [(.slice none 0 0)]) underlying76 (by kernel_rfl) (by kernel_rfl) rfl rfl rfl (eq_of_beq hn) (by decide) (by decide) (fun b2 => ?_))
 refine Va rfl (WL.nil (tn (WP.seq (WP.region (V rfl (ov_fieldAddr underlying24 rfl rfl rfl sizeOf3 rfl rfl) (Vl 1 isAgg3 rfl ?_))))))
 obtain ⟨u1, e1, hm⟩ := bind_some hm
 replace e1 := guardO_some e1
 refine ws rfl (os_makeSlice (En := encBool) (z := (.bool false)) (y0 := false) (bytes := 1) underlying49 (by kernel_rfl) rfl (by decide) rfl rfl rfl e1 (fun b3 xs1 rl1 => ?_))
 refine Va rfl (WL.nil (tn ?_))
 obtain ⟨k1, hk1, hm⟩ := joinK_some hm
 refine WP.seq_join (fun g' S' => ∃ (l13 : (List Cell)) (ao16 : Option Addr) (cap16 : Nat) (xs14 : List Value), RL H encCell l13 xs14 ∧ Sub [(3, (.slice (some ⟨b2, 0, none⟩) 1 1)), (1000000007, (.bool false))] g' ∧ (∀ w', S' w' → St w H [.row 80 (encCell).size l13.length (.slice ao16 l13.length cap16) xs14, .blk b2 78 [(.slice ao16 l13.length cap16)]] H w') ∧ k1 l13 = some r) ?_ ?_
 ·
  refine WP.seq (WP.region (V rfl (ov_fieldAddr underlying24 rfl rfl rfl sizeOf22 rfl rfl) (Vl 2 isAgg22 rfl (V rfl (ov_len_slice underlying22 rfl rfl) (Vm rfl (WL.nil (tn (WP.block ?_))))))))
  have rl2 := RL.nil (α := Cell) H encCell
  refine WP.weaken (fun _ s => s.nilrow 80 (encCell).size) ?_
  refine WP.loop (fun m1 g' S' => ∃ (i1 : Int) (l1 : (List Bool)) (ao3 : Option Addr) (cap3 : Nat) (xs2 : List Value) (l2 : (List Cell)) (ao4 : Option Addr) (cap4 : Nat) (xs3 : List Value), RL H encBool l1 xs2 ∧ RL H encCell l2 xs3 ∧ Sub [(1, (pB b1 0)), (3, (.slice (some ⟨b2, 0, none⟩) 1 1)), (4, (.slice ao3 l1.length cap3)), (20, (.slice ao1 p_s.steps.length cap1)), (21, (.int .i64 (p_s.steps.length : Int))), (22, (.int .i64 i1)), (1000000007, (.bool false))] g' ∧ (∀ w', S' w' → St w H [.row 80 (encCell).size l2.length (.slice ao4 l2.length cap4) xs3, .row 4 (encBool).size l1.length (.slice ao3 l1.length cap3) xs2, .blk b2 78 [(.slice ao4 l2.length cap4)], .blk b1 24 [(.int .i64 p_s.actuators), (.slice ao1 p_s.steps.length cap1)]] H w') ∧ diagram_cells1_loop1 p_s k1 m1 i1 l1 l2 = some r) ((Int.toNat ((p_s.steps.length : Int) - 0) + 1)) ⟨0, (List.replicate (Int.toNat p_s.actuators) false), (some ⟨b3, 0, none⟩), (Int.toNat p_s.actuators), xs1, ([] : List Cell), none, 0, [], rl1, rl2, (Sub.all rfl), fun w' s => s, hm⟩ ?_ ?_
  ·
   rintro g' S' ⟨_, _, _, _, _, _, _, _, _, _, _, _, _, hm⟩
   exact none_some hm
  rintro m1 g' S' ⟨i1, l1, ao3, cap3, xs2, l2, ao4, cap4, xs3, rl3, rl4, hsub1, hS1, hm⟩
  refine WP.sub hsub1 (WP.weaken hS1 ?_)
  rw [diagram_cells1_loop1] at hm
  refine WP.seq (WP.region (V rfl (ov_lss rfl rfl rfl) (WL.nil (tn (WP.seq ?_)))))
  refine WP.cond rfl (fun hc3 => ?_) (fun hc3 => ?_)
  ·
   replace hm := ite_t hc3 hm
   refine WP.skip (tn ?_)
   obtain ⟨k2, hk2, hm⟩ := joinK_some hm
   refine WP.seq_join (fun g' S' => ∃ (l11 : (List Bool)) (ao14 : Option Addr) (cap14 : Nat) (xs12 : List Value) (l12 : (List Cell)) (ao15 : Option Addr) (cap15 : Nat) (xs13 : List Value), RL H encBool l11 xs12 ∧ RL H encCell l12 xs13 ∧ Sub [(1, (pB b1 0)), (3, (.slice (some ⟨b2, 0, none⟩) 1 1)), (4, (.slice ao14 l11.length cap14)), (20, (.slice ao1 p_s.steps.length cap1)), (21, (.int .i64 (p_s.steps.length : Int))), (22, (.int .i64 i1)), (1000000007, (.bool false))] g' ∧ (∀ w', S' w' → St w H [.row 80 (encCell).size l12.length (.slice ao15 l12.length cap15) xs13, .row 4 (encBool).size l11.length (.slice ao14 l11.length cap14) xs12, .blk b2 78 [(.slice ao15 l12.length cap15)], .blk b1 24 [(.int .i64 p_s.actuators), (.slice ao1 p_s.steps.length cap1)]] H w') ∧ k2 l11 l12 = some r) ?_ ?_
   ·
    refine WP.block (WP.seq (WP.region ?_))
    obtain ⟨x1, e2, hm⟩ := bind_some hm
    obtain ⟨h4, h5, h6, cs1, h7, h8⟩ := h1.get e2 (by decide)
    obtain ⟨ao5, cap5, rfl, h3, hc4⟩ := h7
    refine V rfl (ov_indexAddr underlying22 sizeOf45 rfl rfl rfl h4 h5 h6) (V rfl (ov_load_elems (vs := [(.slice ao5 x1.strokes.length cap5), (.int .i64 x1.wait)]) isAgg45 sizeOf45 rfl rfl rfl h8 h6) ?_)
    refine ws rfl (os_alloc (cs := [(.slice none 0 0), (.int .i64 0)]) zeroValue45 rfl rfl (fun b4 => ?_))
    refine ws0 rfl (os_store (i := 0) (vs := [(.slice ao5 x1.strokes.length cap5), (.int .i64 x1.wait)]) (cs' := [(.slice ao5 x1.strokes.length cap5), (.int .i64 x1.wait)]) sizeOf45 rfl rfl rfl rfl rfl rfl rfl rfl rfl ?_)
    refine WL.nil (tn (WP.seq (WP.region (V rfl (ov_fieldAddr underlying24 rfl rfl rfl sizeOf3 rfl rfl) (Vl 4 isAgg3 rfl ?_)))))
    obtain ⟨u2, e3, hm⟩ := bind_some hm
    replace e3 := guardO_some e3
    refine ws rfl (os_makeSlice (En := encCell) (z := (.agg #[(.int .u8 0), (.int .u8 0)])) (y0 := (Cell.mk 0 0)) (bytes := 2) underlying78 (by kernel_rfl) rfl (by decide) rfl rfl rfl e3 (fun b5 xs4 rl5 => ?_))
    refine Va rfl (WL.nil (tn ?_))
    obtain ⟨k3, hk3, hm⟩ := joinK_some hm
    refine WP.seq_join (fun g' S' => ∃ (l4 : (List Cell)) (ao7 : Option Addr) (cap7 : Nat) (xs6 : List Value), RL H encCell l4 xs6 ∧ Sub [(1, (pB b1 0)), (3, (.slice (some ⟨b2, 0, none⟩) 1 1)), (4, (.slice ao3 l1.length cap3)), (6, (pB b4 0)), (7, (.slice ao7 l4.length cap7)), (20, (.slice ao1 p_s.steps.length cap1)), (21, (.int .i64 (p_s.steps.length : Int))), (22, (.int .i64 i1)), (1000000007, (.bool false))] g' ∧ (∀ w', S' w' → St w H [.row 80 (encCell).size l4.length (.slice ao7 l4.length cap7) xs6, .blk b4 45 [(.slice ao5 x1.strokes.length cap5), (.int .i64 x1.wait)], .row 80 (encCell).size l2.length (.slice ao4 l2.length cap4) xs3, .row 4 (encBool).size l1.length (.slice ao3 l1.length cap3) xs2, .blk b2 78 [(.slice ao4 l2.length cap4)], .blk b1 24 [(.int .i64 p_s.actuators), (.slice ao1 p_s.steps.length cap1)]] H w') ∧ k3 l4 = some r) ?_ ?_
    ·
     refine WP.seq (WP.region (Vm rfl (V rfl (ov_len_slice underlying49 rfl rfl) (Vm rfl (WL.nil (tn (WP.block ?_)))))))
     refine WP.loop (fun m2 g' S' => ∃ (i2 : Int) (l3 : (List Cell)) (ao6 : Option Addr) (cap6 : Nat) (xs5 : List Value), RL H encCell l3 xs5 ∧ Sub [(1, (pB b1 0)), (3, (.slice (some ⟨b2, 0, none⟩) 1 1)), (4, (.slice ao3 l1.length cap3)), (6, (pB b4 0)), (7, (.slice ao6 l3.length cap6)), (20, (.slice ao1 p_s.steps.length cap1)), (21, (.int .i64 (p_s.steps.length : Int))), (22, (.int .i64 i1)), (29, (.slice ao3 l1.length cap3)), (30, (.int .i64 (l1.length : Int))), (31, (.int .i64 i2)), (1000000007, (.bool false))] g' ∧ (∀ w', S' w' → St w H [.row 80 (encCell).size l3.length (.slice ao6 l3.length cap6) xs5, .blk b4 45 [(.slice ao5 x1.strokes.length cap5), (.int .i64 x1.wait)], .row 80 (encCell).size l2.length (.slice ao4 l2.length cap4) xs3, .row 4 (encBool).size l1.length (.slice ao3 l1.length cap3) xs2, .blk b2 78 [(.slice ao4 l2.length cap4)], .blk b1 24 [(.int .i64 p_s.actuators), (.slice ao1 p_s.steps.length cap1)]] H w') ∧ diagram_cells1_loop2 l1 k3 m2 i2 l3 = some r) ((Int.toNat ((l1.length : Int) - 0) + 1)) ⟨0, (List.replicate (Int.toNat p_s.actuators) (Cell.mk 0 0)), (some ⟨b5, 0, none⟩), (Int.toNat p_s.actuators), xs4, rl5, (Sub.all rfl), fun w' s => s, hm⟩ ?_ ?_
     ·
      rintro g' S' ⟨_, _, _, _, _, _, _, _, hm⟩
      exact none_some hm
     rintro m2 g' S' ⟨i2, l3, ao6, cap6, xs5, rl6, hsub2, hS2, hm⟩
     refine WP.sub hsub2 (WP.weaken hS2 ?_)
     rw [diagram_cells1_loop2] at hm
     refine WP.seq (WP.region (V rfl (ov_lss rfl rfl rfl) (WL.nil (tn (WP.seq ?_)))))
     refine WP.cond rfl (fun hc5 => ?_) (fun hc5 => ?_)
     ·
      replace hm := ite_t hc5 hm
      refine WP.skip (tn (WP.seq (WP.block (WP.seq (WP.region (Vm rfl ?_))))))
      obtain ⟨x2, e4, hm⟩ := bind_some hm
      obtain ⟨h9, h10, h11, cs2, h12, h13⟩ := RL.get rl3 e4
      obtain rfl : cs2 = [(.bool x2)] := h12
      refine V rfl (ov_indexAddr_own (i := 3) underlying49 sizeOf4 rfl rfl rfl rfl h9 h10) (V rfl (ov_load_own (i := 3) isAgg4 rfl rfl rfl (own_pos h9 h10) (elem_cell h13 (off := 0) rfl)) (Va rfl (Va rfl (WL.nil (tn ?_)))))
      refine WP.region_any (S₀ := St w H [.blk b4 45 [(.slice ao5 x1.strokes.length cap5), (.int .i64 x1.wait)], .row 80 (encCell).size l2.length (.slice ao4 l2.length cap4) xs3, .row 4 (encBool).size l1.length (.slice ao3 l1.length cap3) xs2, .blk b2 78 [(.slice ao4 l2.length cap4)], .blk b1 24 [(.int .i64 p_s.actuators), (.slice ao1 p_s.steps.length cap1)]] H) 13 rfl (by kernel_rfl) (fun w' s => (s.select [1, 2, 3, 4, 5] (by decide) rfl)) (fun _ s => s.drew) ?_
      refine TQ 0 (by kernel_rfl) rfl (ov_move rfl rfl) (TQ 1 (by kernel_rfl) rfl (ov_move rfl rfl) (TQ 2 (by kernel_rfl) rfl (ov_move rfl rfl) (TQ 6 (by kernel_rfl) rfl (ov_move rfl rfl) ?_)))
      refine AL.any (rs := [3]) (by kernel_rfl) (by decide) ?_
      refine ALs.cons (i := 3) rfl (Runs.free rfl) rfl rfl ?_ ?_
      ·
       obtain ⟨r1, e5, hm⟩ := bind_some hm
       refine OQ.step (oq_con (r := (.int .i64 r1)) call87 rfl rfl (fun w' s => ⟨_, (diagram_index_con x2  w' H s.hold hG r1 e5)⟩)) ?_
       refine ⟨fun w' s => (s.select [1, 2, 3, 4, 5] (by decide) rfl), ?_⟩
       obtain ⟨x3, e6, hm⟩ := bind_some hm
       obtain ⟨h14, h15, h16, cs3, h17, h18⟩ := hG.1.1.1.get e6 (by decide)
       obtain rfl : cs3 = [(.int .u8 x3)] := h17
       refine TQ 4 (by kernel_rfl) rfl (ov_indexAddr_globL rfl underlying84 sizeOf5 rfl rfl rfl h14 h15) (TQ 5 (by kernel_rfl) rfl (ov_load_elem (v := (.int .u8 x3)) isAgg5 rfl rfl h18) ?_)
       refine AL.any (rs := [7]) (by kernel_rfl) (by decide) ?_
       refine ALs.cons (i := 7) rfl (Runs.free rfl) rfl rfl ?_ ?_
       ·
        obtain ⟨r2, e7, hm⟩ := bind_some hm
        refine OQ.step (oq_con (r := (.int .i64 r2)) call87 rfl rfl (fun w' s => ⟨_, (diagram_index_con x2  w' H s.hold hG r2 e7)⟩)) ?_
        refine ⟨fun w' s => (s.select [1, 2, 3, 4, 5] (by decide) rfl), ?_⟩
        obtain ⟨x4, e8, hm⟩ := bind_some hm
        obtain ⟨h19, h20, h21, cs4, h22, h23⟩ := hG.1.1.1.get e8 (by decide)
        obtain rfl : cs4 = [(.int .u8 x4)] := h22
        refine TQ 8 (by kernel_rfl) rfl (ov_indexAddr_globL rfl underlying84 sizeOf5 rfl rfl rfl h19 h20) (TQ 9 (by kernel_rfl) rfl (ov_load_elem (v := (.int .u8 x4)) isAgg5 rfl rfl h23) (TQ 10 (by kernel_rfl) rfl (ov_build (r := (.agg #[(.int .u8 x3), (.int .u8 x4)])) rfl rfl (fun _ => by kernel_rfl)) ?_))
        refine AL.any (rs := [11]) (by kernel_rfl) (by decide) ?_
        refine ALs.cons (i := 11) rfl (Runs.free rfl) rfl rfl ?_ ?_
        ·
         obtain ⟨x5, e9, hm⟩ := bind_some hm
         obtain ⟨h24, h25, h26, cs5, h27, h28⟩ := RL.get rl6 e9
         obtain rfl : cs5 = [(.int .u8 x5.first), (.int .u8 x5.second)] := h27
         refine OQ.step (OV.quiet (ov_indexAddr_own (i := 0) underlying78 sizeOf80 rfl rfl rfl rfl h24 h25)) ?_
         refine ⟨fun w' s => (s.select [1, 2, 3, 4, 5] (by decide) rfl), ?_⟩
         refine AL.any (rs := [12]) (by kernel_rfl) (by decide) ?_
         refine ALs.cons0 (i := 12) rfl (Runs.free rfl) rfl ?_ ?_
         ·
          have rl7 := RL.set rl6 (y := (Cell.mk x3 x4)) (off := 0) (vs := [(.int .u8 x3), (.int .u8 x4)]) e9 h28 rfl (Nat.le_of_ble_eq_true rfl)
          have e10 := at?_set (y := (Cell.mk x3 x4)) e9
          refine os_store_own (i := 0) (vs := [(.int .u8 x3), (.int .u8 x4)]) sizeOf80 rfl rfl rfl rfl (own_pos h24 h25) rfl rfl (elem_le (off := 0) h26 (Nat.le_of_ble_eq_true rfl)) rfl ?_
          rw [show l3.length = (List.set l3 (Int.toNat i2) (Cell.mk x3 x4)).length from List.length_set.symm]
          obtain ⟨h29, h30, h31, cs6, h32, h33⟩ := rl7.get e10
          obtain rfl : cs6 = [(.int .u8 x3), (.int .u8 x4)] := h32
          refine ⟨fun w' s => (s.select [1, 2, 3, 4, 5] (by decide) rfl), ?_⟩
          refine AL.done (by kernel_rfl) ?_
          refine bn (tn (WP.region (V rfl (ov_add rfl rfl rfl) (Vm rfl (WL.nil (tn ?_))))))
          exact ⟨(IntKind.wrap .i64 (i2 + 1)), (List.set l3 (Int.toNat i2) (Cell.mk x3 x4)), ao6, cap6, (spl xs5 (Int.toNat i2 * encCell.size + 0) [(.int .u8 x3), (.int .u8 x4)]), rl7, (Sub.all rfl), fun w' s => s, hm⟩
         exact ALs.nil
        exact ALs.nil
       exact ALs.nil
      exact ALs.nil
     replace hm := ite_f hc5 hm
     refine WP.exit (then_exit (then_exit (block_here (tn ?_))))
     exact ⟨l3, ao6, cap6, xs5, rl6, (Sub.all rfl), fun w' s => s, hm⟩
    rintro g' S' ⟨l4, ao7, cap7, xs6, rl8, hsub3, hS3, hm⟩
    refine WP.sub hsub3 (WP.weaken hS3 ?_)
    replace hm := (congrFun hk3 l4).symm.trans hm
    obtain ⟨k4, hk4, hm⟩ := joinK_some hm
    refine WP.seq_join (fun g' S' => ∃ (l7 : (List Bool)) (ao10 : Option Addr) (cap10 : Nat) (xs9 : List Value) (l8 : (List Cell)) (ao11 : Option Addr) (cap11 : Nat) (xs10 : List Value), RL H encBool l7 xs9 ∧ RL H encCell l8 xs10 ∧ Sub [(1, (pB b1 0)), (3, (.slice (some ⟨b2, 0, none⟩) 1 1)), (4, (.slice ao10 l7.length cap10)), (7, (.slice ao11 l8.length cap11)), (20, (.slice ao1 p_s.steps.length cap1)), (21, (.int .i64 (p_s.steps.length : Int))), (22, (.int .i64 i1)), (1000000007, (.bool false))] g' ∧ (∀ w', S' w' → St w H [.row 80 (encCell).size l8.length (.slice ao11 l8.length cap11) xs10, .row 80 (encCell).size l2.length (.slice ao4 l2.length cap4) xs3, .row 4 (encBool).size l7.length (.slice ao10 l7.length cap10) xs9, .blk b2 78 [(.slice ao4 l2.length cap4)], .blk b1 24 [(.int .i64 p_s.actuators), (.slice ao1 p_s.steps.length cap1)]] H w') ∧ k4 l7 l8 = some r) ?_ ?_
    ·
     refine WP.seq (WP.region (V rfl (ov_fieldAddr underlying45 rfl rfl rfl sizeOf43 rfl rfl) (Vl 1 isAgg43 rfl (V rfl (ov_len_slice underlying43 rfl rfl) (Vm rfl (WL.nil (tn (WP.block ?_))))))))
     refine WP.loop (fun m3 g' S' => ∃ (i3 : Int) (l5 : (List Bool)) (ao8 : Option Addr) (cap8 : Nat) (xs7 : List Value) (l6 : (List Cell)) (ao9 : Option Addr) (cap9 : Nat) (xs8 : List Value), RL H encBool l5 xs7 ∧ RL H encCell l6 xs8 ∧ Sub [(1, (pB b1 0)), (3, (.slice (some ⟨b2, 0, none⟩) 1 1)), (4, (.slice ao8 l5.length cap8)), (7, (.slice ao9 l6.length cap9)), (20, (.slice ao1 p_s.steps.length cap1)), (21, (.int .i64 (p_s.steps.length : Int))), (22, (.int .i64 i1)), (50, (.slice ao5 x1.strokes.length cap5)), (51, (.int .i64 (x1.strokes.length : Int))), (52, (.int .i64 i3)), (1000000007, (.bool false))] g' ∧ (∀ w', S' w' → St w H [.row 80 (encCell).size l6.length (.slice ao9 l6.length cap9) xs8, .row 80 (encCell).size l2.length (.slice ao4 l2.length cap4) xs3, .row 4 (encBool).size l5.length (.slice ao8 l5.length cap8) xs7, .blk b2 78 [(.slice ao4 l2.length cap4)], .blk b1 24 [(.int .i64 p_s.actuators), (.slice ao1 p_s.steps.length cap1)]] H w') ∧ diagram_cells1_loop3 x1 k4 m3 i3 l5 l6 = some r) ((Int.toNat ((x1.strokes.length : Int) - 0) + 1)) ⟨0, l1, ao3, cap3, xs2, l4, ao7, cap7, xs6, rl3, rl8, (Sub.all rfl), fun w' s => (s.select [0, 2, 3, 4, 5] (by decide) rfl), hm⟩ ?_ ?_
     ·
      rintro g' S' ⟨_, _, _, _, _, _, _, _, _, _, _, _, _, hm⟩
      exact none_some hm
     rintro m3 g' S' ⟨i3, l5, ao8, cap8, xs7, l6, ao9, cap9, xs8, rl9, rl10, hsub4, hS4, hm⟩
     refine WP.sub hsub4 (WP.weaken hS4 ?_)
     rw [diagram_cells1_loop3] at hm
     refine WP.seq (WP.region (V rfl (ov_lss rfl rfl rfl) (WL.nil (tn (WP.seq ?_)))))
     refine WP.cond rfl (fun hc6 => ?_) (fun hc6 => ?_)
     ·
      replace hm := ite_t hc6 hm
      refine WP.skip (tn (WP.seq (WP.block (WP.seq (WP.region ?_)))))
      obtain ⟨x6, e11, hm⟩ := bind_some hm
      obtain ⟨h34, h35, h36, cs7, h37, h38⟩ := h3.get e11 (by decide)
      obtain rfl : cs7 = [(.int .i64 x6.actuator), (.bool x6.out)] := h37
      refine V rfl (ov_indexAddr underlying43 sizeOf48 rfl rfl rfl h34 h35 h36) (V rfl (ov_load_elems (vs := [(.int .i64 x6.actuator), (.bool x6.out)]) isAgg48 sizeOf48 rfl rfl rfl h38 h36) ?_)
      refine ws rfl (os_alloc (cs := [(.int .i64 0), (.bool false)]) zeroValue48 rfl rfl (fun b6 => ?_))
      refine ws0 rfl (os_store (i := 0) (vs := [(.int .i64 x6.actuator), (.bool x6.out)]) (cs' := [(.int .i64 x6.actuator), (.bool x6.out)]) sizeOf48 rfl rfl rfl rfl rfl rfl rfl rfl rfl ?_)
      refine WL.nil (tn (WP.seq (WP.region (Vm rfl (V rfl (ov_fieldAddr underlying48 rfl rfl rfl sizeOf3 rfl rfl) (Vl 0 isAgg3 rfl (V rfl (ov_fieldAddr underlying48 rfl rfl rfl sizeOf4 rfl rfl) (Vl 0 isAgg4 rfl ?_))))))))
      obtain ⟨x7, e12, hm⟩ := bind_some hm
      obtain ⟨h39, h40, h41, cs8, h42, h43⟩ := RL.get rl9 e12
      obtain rfl : cs8 = [(.bool x7)] := h42
      refine V rfl (ov_indexAddr_own (i := 3) underlying49 sizeOf4 rfl rfl rfl rfl h39 h40) ?_
      have rl11 := RL.set rl9 (y := x6.out) (off := 0) (vs := [(.bool x6.out)]) e12 h43 rfl (Nat.le_of_ble_eq_true rfl)
      have e13 := at?_set (y := x6.out) e12
      refine ws0 rfl (os_store_own (i := 3) (vs := [(.bool x6.out)]) sizeOf4 rfl rfl rfl rfl (own_pos h39 h40) rfl rfl (elem_le (off := 0) h41 (Nat.le_of_ble_eq_true rfl)) rfl ?_)
      rw [show l5.length = (List.set l5 (Int.toNat x6.actuator) x6.out).length from List.length_set.symm]
      obtain ⟨h44, h45, h46, cs9, h47, h48⟩ := rl11.get e13
      obtain rfl : cs9 = [(.bool x6.out)] := h47
      refine WL.nil (tn ?_)
      refine WP.region_any (S₀ := St w H [.blk b6 48 [(.int .i64 x6.actuator), (.bool x6.out)], .row 80 (encCell).size l2.length (.slice ao4 l2.length cap4) xs3, .row 4 (encBool).size (List.set l5 (Int.toNat x6.actuator) x6.out).length (.slice ao8 (List.set l5 (Int.toNat x6.actuator) x6.out).length cap8) (spl xs7 (Int.toNat x6.actuator * encBool.size + 0) [(.bool x6.out)]), .blk b2 78 [(.slice ao4 l2.length cap4)], .blk b1 24 [(.int .i64 p_s.actuators), (.slice ao1 p_s.steps.length cap1)]] H) 16 rfl (by kernel_rfl) (fun w' s => (s.select [0, 2, 3, 4, 5] (by decide) rfl)) (fun _ s => s.drew) ?_
      refine TQ 0 (by kernel_rfl) rfl (ov_move rfl rfl) (TQ 1 (by kernel_rfl) rfl (ov_fieldAddr underlying48 rfl rfl rfl sizeOf3 rfl rfl) (TQ 2 (by kernel_rfl) rfl (ov_load_box (i := 0) isAgg3 rfl rfl rfl rfl) (TQ 3 (by kernel_rfl) rfl (ov_fieldAddr underlying48 rfl rfl rfl sizeOf4 rfl rfl) (TQ 4 (by kernel_rfl) rfl (ov_load_box (i := 0) isAgg4 rfl rfl rfl rfl) (TQ 8 (by kernel_rfl) rfl (ov_fieldAddr underlying48 rfl rfl rfl sizeOf4 rfl rfl) (TQ 9 (by kernel_rfl) rfl (ov_load_box (i := 0) isAgg4 rfl rfl rfl rfl) ?_))))))
      refine AL.any (rs := [5]) (by kernel_rfl) (by decide) ?_
      refine ALs.cons (i := 5) rfl (Runs.free rfl) rfl rfl ?_ ?_
      ·
       obtain ⟨r3, e14, hm⟩ := bind_some hm
       refine OQ.step (oq_con (r := (.int .i64 r3)) call87 rfl rfl (fun w' s => ⟨_, (diagram_index_con x6.out  w' H s.hold hG r3 e14)⟩)) ?_
       refine ⟨fun w' s => (s.select [0, 2, 3, 4, 5] (by decide) rfl), ?_⟩
       obtain ⟨x8, e15, hm⟩ := bind_some hm
       obtain ⟨h49, h50, h51, cs10, h52, h53⟩ := hG.1.1.2.get e15 (by decide)
       obtain rfl : cs10 = [(.int .u8 x8)] := h52
       refine TQ 6 (by kernel_rfl) rfl (ov_indexAddr_globL rfl underlying84 sizeOf5 rfl rfl rfl h49 h50) (TQ 7 (by kernel_rfl) rfl (ov_load_elem (v := (.int .u8 x8)) isAgg5 rfl rfl h53) ?_)
       refine AL.any (rs := [10]) (by kernel_rfl) (by decide) ?_
       refine ALs.cons (i := 10) rfl (Runs.free rfl) rfl rfl ?_ ?_
       ·
        obtain ⟨r4, e16, hm⟩ := bind_some hm
        refine OQ.step (oq_con (r := (.int .i64 r4)) call87 rfl rfl (fun w' s => ⟨_, (diagram_index_con x6.out  w' H s.hold hG r4 e16)⟩)) ?_
        refine ⟨fun w' s => (s.select [0, 2, 3, 4, 5] (by decide) rfl), ?_⟩
        obtain ⟨x9, e17, hm⟩ := bind_some hm
        obtain ⟨h54, h55, h56, cs11, h57, h58⟩ := hG.1.1.1.get e17 (by decide)
        obtain rfl : cs11 = [(.int .u8 x9)] := h57
        refine TQ 11 (by kernel_rfl) rfl (ov_indexAddr_globL rfl underlying84 sizeOf5 rfl rfl rfl h54 h55) (TQ 12 (by kernel_rfl) rfl (ov_load_elem (v := (.int .u8 x9)) isAgg5 rfl rfl h58) (TQ 13 (by kernel_rfl) rfl (ov_build (r := (.agg #[(.int .u8 x8), (.int .u8 x9)])) rfl rfl (fun _ => by kernel_rfl)) ?_))
        refine AL.any (rs := [14]) (by kernel_rfl) (by decide) ?_
        refine ALs.cons (i := 14) rfl (Runs.free rfl) rfl rfl ?_ ?_
        ·
         obtain ⟨x10, e18, hm⟩ := bind_some hm
         obtain ⟨h59, h60, h61, cs12, h62, h63⟩ := RL.get rl10 e18
         obtain rfl : cs12 = [(.int .u8 x10.first), (.int .u8 x10.second)] := h62
         refine OQ.step (OV.quiet (ov_indexAddr_own (i := 1) underlying78 sizeOf80 rfl rfl rfl rfl h59 h60)) ?_
         refine ⟨fun w' s => (s.select [0, 2, 3, 4, 5] (by decide) rfl), ?_⟩
         refine AL.any (rs := [15]) (by kernel_rfl) (by decide) ?_
         refine ALs.cons0 (i := 15) rfl (Runs.free rfl) rfl ?_ ?_
         ·
          have rl12 := RL.set rl10 (y := (Cell.mk x8 x9)) (off := 0) (vs := [(.int .u8 x8), (.int .u8 x9)]) e18 h63 rfl (Nat.le_of_ble_eq_true rfl)
          have e19 := at?_set (y := (Cell.mk x8 x9)) e18
          refine os_store_own (i := 1) (vs := [(.int .u8 x8), (.int .u8 x9)]) sizeOf80 rfl rfl rfl rfl (own_pos h59 h60) rfl rfl (elem_le (off := 0) h61 (Nat.le_of_ble_eq_true rfl)) rfl ?_
          rw [show l6.length = (List.set l6 (Int.toNat x6.actuator) (Cell.mk x8 x9)).length from List.length_set.symm]
          obtain ⟨h64, h65, h66, cs13, h67, h68⟩ := rl12.get e19
          obtain rfl : cs13 = [(.int .u8 x8), (.int .u8 x9)] := h67
          refine ⟨fun w' s => (s.select [0, 2, 3, 4, 5] (by decide) rfl), ?_⟩
          refine AL.done (by kernel_rfl) ?_
          refine bn (tn (WP.region (V rfl (ov_add rfl rfl rfl) (Vm rfl (WL.nil (tn ?_))))))
          exact ⟨(IntKind.wrap .i64 (i3 + 1)), (List.set l5 (Int.toNat x6.actuator) x6.out), ao8, cap8, (spl xs7 (Int.toNat x6.actuator * encBool.size + 0) [(.bool x6.out)]), (List.set l6 (Int.toNat x6.actuator) (Cell.mk x8 x9)), ao9, cap9, (spl xs8 (Int.toNat x6.actuator * encCell.size + 0) [(.int .u8 x8), (.int .u8 x9)]), rl11, rl12, (Sub.all rfl), fun w' s => (s.select [1, 2, 3, 4, 5] (by decide) rfl), hm⟩
         exact ALs.nil
        exact ALs.nil
       exact ALs.nil
      exact ALs.nil
     replace hm := ite_f hc6 hm
     refine WP.exit (then_exit (then_exit (block_here (tn ?_))))
     exact ⟨l5, ao8, cap8, xs7, l6, ao9, cap9, xs8, rl9, rl10, (Sub.all rfl), fun w' s => s, hm⟩
    rintro g' S' ⟨l7, ao10, cap10, xs9, l8, ao11, cap11, xs10, rl13, rl14, hsub5, hS5, hm⟩
    refine WP.sub hsub5 (WP.weaken hS5 ?_)
    replace hm := (congrFun (congrFun hk4 l7) l8).symm.trans hm
    refine WP.seq (WP.region (Vm rfl (V rfl (ov_len_slice underlying76 rfl rfl) (Vm rfl (WL.nil (tn (WP.block ?_)))))))
    refine WP.loop (fun m4 g' S' => ∃ (i4 : Int) (l9 : (List Cell)) (ao12 : Option Addr) (cap12 : Nat) (xs11 : List Value), RL H encCell l9 xs11 ∧ Sub [(1, (pB b1 0)), (3, (.slice (some ⟨b2, 0, none⟩) 1 1)), (4, (.slice ao10 l7.length cap10)), (7, (.slice ao11 l8.length cap11)), (20, (.slice ao1 p_s.steps.length cap1)), (21, (.int .i64 (p_s.steps.length : Int))), (22, (.int .i64 i1)), (79, (.int .i64 1)), (80, (.int .i64 i4)), (1000000007, (.bool false))] g' ∧ (∀ w', S' w' → St w H [.row 80 (encCell).size l8.length (.slice ao11 l8.length cap11) xs10, .row 80 (encCell).size l9.length (.slice ao12 l9.length cap12) xs11, .row 4 (encBool).size l7.length (.slice ao10 l7.length cap10) xs9, .blk b2 78 [(.slice ao12 l9.length cap12)], .blk b1 24 [(.int .i64 p_s.actuators), (.slice ao1 p_s.steps.length cap1)]] H w') ∧ diagram_cells1_loop4 k2 l8 l7 m4 i4 l9 = some r) ((Int.toNat (1 - 0) + 1)) ⟨0, l2, ao4, cap4, xs3, rl4, (Sub.all rfl), fun w' s => s, hm⟩ ?_ ?_
    ·
     rintro g' S' ⟨_, _, _, _, _, _, _, _, hm⟩
     exact none_some hm
    rintro m4 g' S' ⟨i4, l9, ao12, cap12, xs11, rl15, hsub6, hS6, hm⟩
    refine WP.sub hsub6 (WP.weaken hS6 ?_)
    rw [diagram_cells1_loop4] at hm
    refine WP.seq (WP.region (V rfl (ov_lss rfl rfl rfl) (WL.nil (tn (WP.seq ?_)))))
    refine WP.cond rfl (fun hc7 => ?_) (fun hc7 => ?_)
    ·
     replace hm := ite_t hc7 hm
     refine WP.skip (tn (WP.seq (WP.block (WP.seq (WP.region (Vm rfl (Va rfl (WL.nil (tn ?_)))))))))
     refine WP.region_any (S₀ := St w H [.row 80 (encCell).size l8.length (.slice ao11 l8.length cap11) xs10, .row 4 (encBool).size l7.length (.slice ao10 l7.length cap10) xs9, .blk b1 24 [(.int .i64 p_s.actuators), (.slice ao1 p_s.steps.length cap1)]] H) 14 rfl (by kernel_rfl) (fun w' s => (s.select [0, 2, 4] (by decide) rfl)) (fun _ s => s.drew) ?_
     refine TQ 0 (by kernel_rfl) rfl (ov_move rfl rfl) (TQ 1 (by kernel_rfl) rfl (ov_move rfl rfl) (TQ 2 (by kernel_rfl) rfl (ov_move rfl rfl) (TQ 3 (by kernel_rfl) rfl (ov_move rfl rfl) ?_)))
     rcases Bool.eq_false_or_eq_true (i4 == 0) with hc8 | hc8
     ·
      replace hm := ite_t hc8 hm
      refine TQ 4 (by kernel_rfl) rfl (ov_indexAddr_bsl (j := 0) underlying76 sizeOf78 rfl rfl rfl (eq_of_beq hc8) rfl) (TQ 6 (by kernel_rfl) rfl (ov_move rfl rfl) (TQ 7 (by kernel_rfl) rfl (ov_move rfl rfl) ?_))
      obtain ⟨x11, e20, hm⟩ := bind_some hm
      obtain ⟨h69, h70, h71, cs14, h72, h73⟩ := RL.get rl14 e20
      obtain rfl : cs14 = [(.int .u8 x11.first), (.int .u8 x11.second)] := h72
      refine TQ 8 (by kernel_rfl) rfl (ov_indexAddr_own (i := 0) underlying78 sizeOf80 rfl rfl rfl rfl h69 h70) (TQ 9 (by kernel_rfl) rfl (ov_load_owns (i := 0) (vs := [(.int .u8 x11.first), (.int .u8 x11.second)]) isAgg80 sizeOf80 rfl rfl rfl (own_pos h69 h70) rfl (fun j u hu => elem_cell h73 hu)) ?_)
      refine AL.any (rs := [5, 10]) (by kernel_rfl) (by decide) ?_
      refine ALs.cons (i := 5) rfl (Runs.free rfl) rfl rfl ?_ ?_
      ·
       refine OQ.step (OV.quiet (ov_load_box (i := 3) isAgg78 rfl rfl rfl rfl)) ?_
       refine ⟨fun w' s => (s.select [0, 2, 4] (by decide) rfl), ?_⟩
       refine AL.any (rs := [10]) (by kernel_rfl) (by decide) ?_
       refine ALs.cons (i := 10) rfl (Runs.free rfl) rfl rfl ?_ ?_
       ·
        have rl16 : RL H encCell ([x11] : List Cell) [(.int .u8 x11.first), (.int .u8 x11.second)] := RL.cons (cs := [(.int .u8 x11.first), (.int .u8 x11.second)]) (xs := []) rfl (RL.nil _ _)
        refine os_buildSlice (cs := [(.int .u8 x11.first), (.int .u8 x11.second)]) (E := 80) (sz := 2) rfl rfl (fun _ => by kernel_rfl) rfl (by decide) (fun b7 => ?_)
        refine ⟨fun w' s => (s.select [1, 3, 5] (by decide) rfl), ?_⟩
        refine AL.any (rs := [11]) (by kernel_rfl) (by decide) ?_
        refine ALs.cons (i := 11) rfl (Runs.free rfl) rfl rfl ?_ ?_
        ·
         obtain ⟨l10, e21, hm⟩ := bind_some hm
         refine os_app (i := 2) (j := 0) (En := encCell) (xs := xs11) (ys := [(.int .u8 x11.first), (.int .u8 x11.second)]) underlying78 (by kernel_rfl : (prog.info? 80).map (fun i => (i.zero, i.size, i.bytes)) = some (some (.agg #[(.int .u8 0), (.int .u8 0)]), (encCell).size, 2)) rfl (by decide) rfl rfl rfl rfl rfl rfl rl15 rl16 e21 (fun ao13 cap13 rl17 => ?_)
         refine ⟨fun w' s => (s.select [1, 3, 5] (by decide) rfl), ?_⟩
         refine TQ 12 (by kernel_rfl) rfl (ov_indexAddr_bsl (j := 0) underlying76 sizeOf78 rfl rfl rfl (eq_of_beq hc8) rfl) ?_
         refine AL.any (rs := [13]) (by kernel_rfl) (by decide) ?_
         refine ALs.cons0 (i := 13) rfl (Runs.free rfl) rfl ?_ ?_
         ·
          refine os_store (i := 4) (vs := [(.slice ao13 (l9 ++ ([x11] : List Cell)).length cap13)]) (cs' := [(.slice ao13 (l9 ++ ([x11] : List Cell)).length cap13)]) sizeOf78 rfl rfl rfl rfl rfl rfl rfl rfl rfl ?_
          refine ⟨fun w' s => (s.select [1, 3, 5] (by decide) rfl), ?_⟩
          refine AL.done (by kernel_rfl) ?_
          refine bn (tn (WP.region (V rfl (ov_add rfl rfl rfl) (Vm rfl (WL.nil (tn ?_))))))
          exact ⟨(IntKind.wrap .i64 (i4 + 1)), (l9 ++ ([x11] : List Cell)), ao13, cap13, (xs11 ++ [(.int .u8 x11.first), (.int .u8 x11.second)]), rl17, (Sub.all rfl), fun w' s => (s.select [1, 2, 3, 4, 5] (by decide) rfl), hm⟩
         exact ALs.nil
        exact ALs.nil
       exact ALs.nil
      refine ALs.cons (i := 10) rfl (Runs.free rfl) rfl rfl ?_ ?_
      ·
       have rl16 : RL H encCell ([x11] : List Cell) [(.int .u8 x11.first), (.int .u8 x11.second)] := RL.cons (cs := [(.int .u8 x11.first), (.int .u8 x11.second)]) (xs := []) rfl (RL.nil _ _)
       refine os_buildSlice (cs := [(.int .u8 x11.first), (.int .u8 x11.second)]) (E := 80) (sz := 2) rfl rfl (fun _ => by kernel_rfl) rfl (by decide) (fun b7 => ?_)
       refine ⟨fun w' s => (s.select [1, 3, 5] (by decide) rfl), ?_⟩
       refine AL.any (rs := [5]) (by kernel_rfl) (by decide) ?_
       refine ALs.cons (i := 5) rfl (Runs.free rfl) rfl rfl ?_ ?_
       ·
        refine OQ.step (OV.quiet (ov_load_box (i := 4) isAgg78 rfl rfl rfl rfl)) ?_
        refine ⟨fun w' s => (s.select [1, 3, 5] (by decide) rfl), ?_⟩
        refine AL.any (rs := [11]) (by kernel_rfl) (by decide) ?_
        refine ALs.cons (i := 11) rfl (Runs.free rfl) rfl rfl ?_ ?_
        ·
         obtain ⟨l10, e21, hm⟩ := bind_some hm
         refine os_app (i := 2) (j := 0) (En := encCell) (xs := xs11) (ys := [(.int .u8 x11.first), (.int .u8 x11.second)]) underlying78 (by kernel_rfl : (prog.info? 80).map (fun i => (i.zero, i.size, i.bytes)) = some (some (.agg #[(.int .u8 0), (.int .u8 0)]), (encCell).size, 2)) rfl (by decide) rfl rfl rfl rfl rfl rfl rl15 rl16 e21 (fun ao13 cap13 rl17 => ?_)
         refine ⟨fun w' s => (s.select [1, 3, 5] (by decide) rfl), ?_⟩
         refine TQ 12 (by kernel_rfl) rfl (ov_indexAddr_bsl (j := 0) underlying76 sizeOf78 rfl rfl rfl (eq_of_beq hc8) rfl) ?_
         refine AL.any (rs := [13]) (by kernel_rfl) (by decide) ?_
         refine ALs.cons0 (i := 13) rfl (Runs.free rfl) rfl ?_ ?_
         ·
          refine os_store (i := 4) (vs := [(.slice ao13 (l9 ++ ([x11] : List Cell)).length cap13)]) (cs' := [(.slice ao13 (l9 ++ ([x11] : List Cell)).length cap13)]) sizeOf78 rfl rfl rfl rfl rfl rfl rfl rfl rfl ?_
          refine ⟨fun w' s => (s.select [1, 3, 5] (by decide) rfl), ?_⟩
          refine AL.done (by kernel_rfl) ?_
          refine bn (tn (WP.region (V rfl (ov_add rfl rfl rfl) (Vm rfl (WL.nil (tn ?_))))))
          exact ⟨(IntKind.wrap .i64 (i4 + 1)), (l9 ++ ([x11] : List Cell)), ao13, cap13, (xs11 ++ [(.int .u8 x11.first), (.int .u8 x11.second)]), rl17, (Sub.all rfl), fun w' s => (s.select [1, 2, 3, 4, 5] (by decide) rfl), hm⟩
         exact ALs.nil
        exact ALs.nil
       exact ALs.nil
      exact ALs.nil
     replace hm := ite_f hc8 hm
     exact (none_some hm).elim
    replace hm := ite_f hc7 hm
    refine WP.exit (then_exit (then_exit (block_here (bn (tn ?_)))))
    exact ⟨l7, ao10, cap10, xs9, l9, ao12, cap12, xs11, rl13, rl15, (Sub.all rfl), fun w' s => (s.select [1, 2, 3, 4] (by decide) rfl), hm⟩
   rintro g' S' ⟨l11, ao14, cap14, xs12, l12, ao15, cap15, xs13, rl18, rl19, hsub7, hS7, hm⟩
   refine WP.sub hsub7 (WP.weaken hS7 ?_)
   replace hm := (congrFun (congrFun hk2 l11) l12).symm.trans hm
   refine WP.region (V rfl (ov_add rfl rfl rfl) (Vm rfl (WL.nil (tn ?_))))
   exact ⟨(IntKind.wrap .i64 (i1 + 1)), l11, ao14, cap14, xs12, l12, ao15, cap15, xs13, rl18, rl19, (Sub.all rfl), fun w' s => s, hm⟩
  replace hm := ite_f hc3 hm
  refine WP.exit (then_exit (then_exit (block_here (tn ?_))))
  exact ⟨l2, ao4, cap4, xs3, rl4, (Sub.all rfl), fun w' s => (s.select [0, 2] (by decide) rfl), hm⟩
 rintro g' S' ⟨l13, ao16, cap16, xs14, rl20, hsub8, hS8, hm⟩
 refine WP.sub hsub8 (WP.weaken hS8 ?_)
 replace hm := (congrFun hk1 l13).symm.trans hm
 refine WP.seq (WP.region (Vm rfl ?_))
 refine WL.held rl20 (fun H1 hc9 hle1 h74 => ?_)
 have rl21 : RL H1 (encSl encCell) ([l13] : List (List Cell)) [(.slice ao16 l13.length cap16)] := RL.cons (cs := [(.slice ao16 l13.length cap16)]) (xs := []) ⟨ao16, cap16, rfl, h74, hc9⟩ (RL.nil _ _)
 refine WL.weaken (fun _ s => s.blk_rowN (N := 1) (sz := 1) rfl (by decide)) ?_
 refine Va rfl (WL.nil (tn (WP.ret ?_)))
 obtain rfl := Option.some.inj hm
 refine retQ_ret results43 (Res.tmp rfl Res.nil) rfl (fun w' s => ⟨s.below, ?_⟩)
 obtain ⟨h75, hc10⟩ := s.ret_row (i := 0) rfl rl21
 exact ⟨(some ⟨b2, 0, none⟩), 1, rfl, h75, hc10⟩
theorem diagram_cells2_con (p_s : Sequence) (ao1 : Option Addr) (cap1 : Nat) (w : World) (H : Heap) (hH : Le H (hp w)) (h1 : SL H encStep ao1 p_s.steps) (hc1 : p_s.steps.length ≤ cap1) (hG : Glob H) (hn : (p_s.actuators == 2) = true) (r : (List (List Cell))) (hm : diagram_cells2 p_s = some r) :
  Con prog 43 [(.agg #[(.int .i64 p_s.actuators), (.slice ao1 p_s.steps.length cap1)])] w H (fun v H' => ∃ (ao2 : Option Addr) (cap2 : Nat), v = (.slice ao2 r.length cap2) ∧ SL H' (encSl encCell) ao2 r ∧ r.length ≤ cap2) := by
 unfold diagram_cells2 at hm
 refine con_of hH func43 rfl 99 ntmps43 rfl ?_
 refine WP.seq (WP.region ?_)
 refine ws rfl (os_box (cs := [(.int .i64 p_s.actuators), (.slice ao1 p_s.steps.length cap1)]) rfl rfl rfl (fun b1 => ?_))
 refine Va rfl (WL.nil (tn (WP.seq (WP.region (V rfl (ov_fieldAddr underlying24 rfl rfl rfl sizeOf3 rfl rfl) (Vl 0 isAgg3 rfl ?_))))))
 refine ws rfl (os_makeSlice_n (N := 2) (sz := 1) (bytes := 24) (z := (.slice none 0 0)) (cs := [(.slice none 0 0), (.slice none 0 0)]) underlying76 (by kernel_rfl) (by kernel_rfl) rfl rfl rfl (eq_of_beq hn) (by decide) (by decide) (fun b2 => ?_))
 refine Va rfl (WL.nil (tn (WP.seq (WP.region (V rfl (ov_fieldAddr underlying24 rfl rfl rfl sizeOf3 rfl rfl) (Vl 1 isAgg3 rfl ?_))))))
 obtain ⟨u1, e1, hm⟩ := bind_some hm
 replace e1 := guardO_some e1
 refine ws rfl (os_makeSlice (En := encBool) (z := (.bool false)) (y0 := false) (bytes := 1) underlying49 (by kernel_rfl) rfl (by decide) rfl rfl rfl e1 (fun b3 xs1 rl1 => ?_))
 refine Va rfl (WL.nil (tn ?_))
 obtain ⟨k1, hk1, hm⟩ := joinK_some hm
 refine WP.seq_join (fun g' S' => ∃ (l17 : (List Cell)) (ao20 : Option Addr) (cap20 : Nat) (xs17 : List Value) (l18 : (List Cell)) (ao21 : Option Addr) (cap21 : Nat) (xs18 : List Value), RL H encCell l17 xs17 ∧ RL H encCell l18 xs18 ∧ Sub [(3, (.slice (some ⟨b2, 0, none⟩) 2 2)), (1000000007, (.bool false))] g' ∧ (∀ w', S' w' → St w H [.row 80 (encCell).size l18.length (.slice ao21 l18.length cap21) xs18, .row 80 (encCell).size l17.length (.slice ao20 l17.length cap20) xs17, .blk b2 78 [(.slice ao20 l17.length cap20), (.slice ao21 l18.length cap21)]] H w') ∧ k1 l17 l18 = some r) ?_ ?_
 ·
  refine WP.seq (WP.region (V rfl (ov_fieldAddr underlying24 rfl rfl rfl sizeOf22 rfl rfl) (Vl 2 isAgg22 rfl (V rfl (ov_len_slice underlying22 rfl rfl) (Vm rfl (WL.nil (tn (WP.block ?_))))))))
  have rl2 := RL.nil (α := Cell) H encCell
  refine WP.weaken (fun _ s => s.nilrow 80 (encCell).size) ?_
  have rl3 := RL.nil (α := Cell) H encCell
  refine WP.weaken (fun _ s => s.nilrow 80 (encCell).size) ?_
  refine WP.loop (fun m1 g' S' => ∃ (i1 : Int) (l1 : (List Bool)) (ao3 : Option Addr) (cap3 : Nat) (xs2 : List Value) (l2 : (List Cell)) (ao4 : Option Addr) (cap4 : Nat) (xs3 : List Value) (l3 : (List Cell)) (ao5 : Option Addr) (cap5 : Nat) (xs4 : List Value), RL H encBool l1 xs2 ∧ RL H encCell l2 xs3 ∧ RL H encCell l3 xs4 ∧ Sub [(1, (pB b1 0)), (3, (.slice (some ⟨b2, 0, none⟩) 2 2)), (4, (.slice ao3 l1.length cap3)), (20, (.slice ao1 p_s.steps.length cap1)), (21, (.int .i64 (p_s.steps.length : Int))), (22, (.int .i64 i1)), (1000000007, (.bool false))] g' ∧ (∀ w', S' w' → St w H [.row 80 (encCell).size l3.length (.slice ao5 l3.length cap5) xs4, .row 80 (encCell).size l2.length (.slice ao4 l2.length cap4) xs3, .row 4 (encBool).size l1.length (.slice ao3 l1.length cap3) xs2, .blk b2 78 [(.slice ao4 l2.length cap4), (.slice ao5 l3.length cap5)], .blk b1 24 [(.int .i64 p_s.actuators), (.slice ao1 p_s.steps.length cap1)]] H w') ∧ diagram_cells2_loop1 p_s k1 m1 i1 l1 l2 l3 = some r) ((Int.toNat ((p_s.steps.length : Int) - 0) + 1)) ⟨0, (List.replicate (Int.toNat p_s.actuators) false), (some ⟨b3, 0, none⟩), (Int.toNat p_s.actuators), xs1, ([] : List Cell), none, 0, [], ([] : List Cell), none, 0, [], rl1, rl2, rl3, (Sub.all rfl), fun w' s => s, hm⟩ ?_ ?_
  ·
   rintro g' S' ⟨_, _, _, _, _, _, _, _, _, _, _, _, _, _, _, _, _, _, hm⟩
   exact none_some hm
  rintro m1 g' S' ⟨i1, l1, ao3, cap3, xs2, l2, ao4, cap4, xs3, l3, ao5, cap5, xs4, rl4, rl5, rl6, hsub1, hS1, hm⟩
  refine WP.sub hsub1 (WP.weaken hS1 ?_)
  rw [diagram_cells2_loop1] at hm
  refine WP.seq (WP.region (V rfl (ov_lss rfl rfl rfl) (WL.nil (tn (WP.seq ?_)))))
  refine WP.cond rfl (fun hc3 => ?_) (fun hc3 => ?_)
  ·
   replace hm := ite_t hc3 hm
   refine WP.skip (tn ?_)
   obtain ⟨k2, hk2, hm⟩ := joinK_some hm
   refine WP.seq_join (fun g' S' => ∃ (l14 : (List Bool)) (ao17 : Option Addr) (cap17 : Nat) (xs14 : List Value) (l15 : (List Cell)) (ao18 : Option Addr) (cap18 : Nat) (xs15 : List Value) (l16 : (List Cell)) (ao19 : Option Addr) (cap19 : Nat) (xs16 : List Value), RL H encBool l14 xs14 ∧ RL H encCell l15 xs15 ∧ RL H encCell l16 xs16 ∧ Sub [(1, (pB b1 0)), (3, (.slice (some ⟨b2, 0, none⟩) 2 2)), (4, (.slice ao17 l14.length cap17)), (20, (.slice ao1 p_s.steps.length cap1)), (21, (.int .i64 (p_s.steps.length : Int))), (22, (.int .i64 i1)), (1000000007, (.bool false))] g' ∧ (∀ w', S' w' → St w H [.row 80 (encCell).size l16.length (.slice ao19 l16.length cap19) xs16, .row 80 (encCell).size l15.length (.slice ao18 l15.length cap18) xs15, .row 4 (encBool).size l14.length (.slice ao17 l14.length cap17) xs14, .blk b2 78 [(.slice ao18 l15.length cap18), (.slice ao19 l16.length cap19)], .blk b1 24 [(.int .i64 p_s.actuators), (.slice ao1 p_s.steps.length cap1)]] H w') ∧ k2 l14 l15 l16 = some r) ?_ ?_
   ·
    refine WP.block (WP.seq (WP.region ?_))
    obtain ⟨x1, e2, hm⟩ := bind_some hm
    obtain ⟨h4, h5, h6, cs1, h7, h8⟩ := h1.get e2 (by decide)
    obtain ⟨ao6, cap6, rfl, h3, hc4⟩ := h7
    refine V rfl (ov_indexAddr underlying22 sizeOf45 rfl rfl rfl h4 h5 h6) (V rfl (ov_load_elems (vs := [(.slice ao6 x1.strokes.length cap6), (.int .i64 x1.wait)]) isAgg45 sizeOf45 rfl rfl rfl h8 h6) ?_)
    refine ws rfl (os_alloc (cs := [(.slice none 0 0), (.int .i64 0)]) zeroValue45 rfl rfl (fun b4 => ?_))
    refine ws0 rfl (os_store (i := 0) (vs := [(.slice ao6 x1.strokes.length cap6), (.int .i64 x1.wait)]) (cs' := [(.slice ao6 x1.strokes.length cap6), (.int .i64 x1.wait)]) sizeOf45 rfl rfl rfl rfl rfl rfl rfl rfl rfl ?_)
    refine WL.nil (tn (WP.seq (WP.region (V rfl (ov_fieldAddr underlying24 rfl rfl rfl sizeOf3 rfl rfl) (Vl 5 isAgg3 rfl ?_)))))
    obtain ⟨u2, e3, hm⟩ := bind_some hm
    replace e3 := guardO_some e3
    refine ws rfl (os_makeSlice (En := encCell) (z := (.agg #[(.int .u8 0), (.int .u8 0)])) (y0 := (Cell.mk 0 0)) (bytes := 2) underlying78 (by kernel_rfl) rfl (by decide) rfl rfl rfl e3 (fun b5 xs5 rl7 => ?_))
    refine Va rfl (WL.nil (tn ?_))
    obtain ⟨k3, hk3, hm⟩ := joinK_some hm
    refine WP.seq_join (fun g' S' => ∃ (l5 : (List Cell)) (ao8 : Option Addr) (cap8 : Nat) (xs7 : List Value), RL H encCell l5 xs7 ∧ Sub [(1, (pB b1 0)), (3, (.slice (some ⟨b2, 0, none⟩) 2 2)), (4, (.slice ao3 l1.length cap3)), (6, (pB b4 0)), (7, (.slice ao8 l5.length cap8)), (20, (.slice ao1 p_s.steps.length cap1)), (21, (.int .i64 (p_s.steps.length : Int))), (22, (.int .i64 i1)), (1000000007, (.bool false))] g' ∧ (∀ w', S' w' → St w H [.row 80 (encCell).size l5.length (.slice ao8 l5.length cap8) xs7, .blk b4 45 [(.slice ao6 x1.strokes.length cap6), (.int .i64 x1.wait)], .row 80 (encCell).size l3.length (.slice ao5 l3.length cap5) xs4, .row 80 (encCell).size l2.length (.slice ao4 l2.length cap4) xs3, .row 4 (encBool).size l1.length (.slice ao3 l1.length cap3) xs2, .blk b2 78 [(.slice ao4 l2.length cap4), (.slice ao5 l3.length cap5)], .blk b1 24 [(.int .i64 p_s.actuators), (.slice ao1 p_s.steps.length cap1)]] H w') ∧ k3 l5 = some r) ?_ ?_
    ·
     refine WP.seq (WP.region (Vm rfl (V rfl (ov_len_slice underlying49 rfl rfl) (Vm rfl (WL.nil (tn (WP.block ?_)))))))
     refine WP.loop (fun m2 g' S' => ∃ (i2 : Int) (l4 : (List Cell)) (ao7 : Option Addr) (cap7 : Nat) (xs6 : List Value), RL H encCell l4 xs6 ∧ Sub [(1, (pB b1 0)), (3, (.slice (some ⟨b2, 0, none⟩) 2 2)), (4, (.slice ao3 l1.length cap3)), (6, (pB b4 0)), (7, (.slice ao7 l4.length cap7)), (20, (.slice ao1 p_s.steps.length cap1)), (21, (.int .i64 (p_s.steps.length : Int))), (22, (.int .i64 i1)), (29, (.slice ao3 l1.length cap3)), (30, (.int .i64 (l1.length : Int))), (31, (.int .i64 i2)), (1000000007, (.bool false))] g' ∧ (∀ w', S' w' → St w H [.row 80 (encCell).size l4.length (.slice ao7 l4.length cap7) xs6, .blk b4 45 [(.slice ao6 x1.strokes.length cap6), (.int .i64 x1.wait)], .row 80 (encCell).size l3.length (.slice ao5 l3.length cap5) xs4, .row 80 (encCell).size l2.length (.slice ao4 l2.length cap4) xs3, .row 4 (encBool).size l1.length (.slice ao3 l1.length cap3) xs2, .blk b2 78 [(.slice ao4 l2.length cap4), (.slice ao5 l3.length cap5)], .blk b1 24 [(.int .i64 p_s.actuators), (.slice ao1 p_s.steps.length cap1)]] H w') ∧ diagram_cells1_loop2 l1 k3 m2 i2 l4 = some r) ((Int.toNat ((l1.length : Int) - 0) + 1)) ⟨0, (List.replicate (Int.toNat p_s.actuators) (Cell.mk 0 0)), (some ⟨b5, 0, none⟩), (Int.toNat p_s.actuators), xs5, rl7, (Sub.all rfl), fun w' s => s, hm⟩ ?_ ?_
     ·
      rintro g' S' ⟨_, _, _, _, _, _, _, _, hm⟩
      exact none_some hm
     rintro m2 g' S' ⟨i2, l4, ao7, cap7, xs6, rl8, hsub2, hS2, hm⟩
     refine WP.sub hsub2 (WP.weaken hS2 ?_)
     rw [diagram_cells1_loop2] at hm
     refine WP.seq (WP.region (V rfl (ov_lss rfl rfl rfl) (WL.nil (tn (WP.seq ?_)))))
     refine WP.cond rfl (fun hc5 => ?_) (fun hc5 => ?_)
     ·
      replace hm := ite_t hc5 hm
      refine WP.skip (tn (WP.seq (WP.block (WP.seq (WP.region (Vm rfl ?_))))))
      obtain ⟨x2, e4, hm⟩ := bind_some hm
      obtain ⟨h9, h10, h11, cs2, h12, h13⟩ := RL.get rl4 e4
      obtain rfl : cs2 = [(.bool x2)] := h12
      refine V rfl (ov_indexAddr_own (i := 4) underlying49 sizeOf4 rfl rfl rfl rfl h9 h10) (V rfl (ov_load_own (i := 4) isAgg4 rfl rfl rfl (own_pos h9 h10) (elem_cell h13 (off := 0) rfl)) (Va rfl (Va rfl (WL.nil (tn ?_)))))
      refine WP.region_any (S₀ := St w H [.blk b4 45 [(.slice ao6 x1.strokes.length cap6), (.int .i64 x1.wait)], .row 80 (encCell).size l3.length (.slice ao5 l3.length cap5) xs4, .row 80 (encCell).size l2.length (.slice ao4 l2.length cap4) xs3, .row 4 (encBool).size l1.length (.slice ao3 l1.length cap3) xs2, .blk b2 78 [(.slice ao4 l2.length cap4), (.slice ao5 l3.length cap5)], .blk b1 24 [(.int .i64 p_s.actuators), (.slice ao1 p_s.steps.length cap1)]] H) 13 rfl (by kernel_rfl) (fun w' s => (s.select [1, 2, 3, 4, 5, 6] (by decide) rfl)) (fun _ s => s.drew) ?_
      refine TQ 0 (by kernel_rfl) rfl (ov_move rfl rfl) (TQ 1 (by kernel_rfl) rfl (ov_move rfl rfl) (TQ 2 (by kernel_rfl) rfl (ov_move rfl rfl) (TQ 6 (by kernel_rfl) rfl (ov_move rfl rfl) ?_)))
      refine AL.any (rs := [3]) (by kernel_rfl) (by decide) ?_
      refine ALs.cons (i := 3) rfl (Runs.free rfl) rfl rfl ?_ ?_
      ·
       obtain ⟨r1, e5, hm⟩ := bind_some hm
       refine OQ.step (oq_con (r := (.int .i64 r1)) call87 rfl rfl (fun w' s => ⟨_, (diagram_index_con x2  w' H s.hold hG r1 e5)⟩)) ?_
       refine ⟨fun w' s => (s.select [1, 2, 3, 4, 5, 6] (by decide) rfl), ?_⟩
       obtain ⟨x3, e6, hm⟩ := bind_some hm
       obtain ⟨h14, h15, h16, cs3, h17, h18⟩ := hG.1.1.1.get e6 (by decide)
       obtain rfl : cs3 = [(.int .u8 x3)] := h17
       refine TQ 4 (by kernel_rfl) rfl (ov_indexAddr_globL rfl underlying84 sizeOf5 rfl rfl rfl h14 h15) (TQ 5 (by kernel_rfl) rfl (ov_load_elem (v := (.int .u8 x3)) isAgg5 rfl rfl h18) ?_)
       refine AL.any (rs := [7]) (by kernel_rfl) (by decide) ?_
       refine ALs.cons (i := 7) rfl (Runs.free rfl) rfl rfl ?_ ?_
       ·
        obtain ⟨r2, e7, hm⟩ := bind_some hm
        refine OQ.step (oq_con (r := (.int .i64 r2)) call87 rfl rfl (fun w' s => ⟨_, (diagram_index_con x2  w' H s.hold hG r2 e7)⟩)) ?_
        refine ⟨fun w' s => (s.select [1, 2, 3, 4, 5, 6] (by decide) rfl), ?_⟩
        obtain ⟨x4, e8, hm⟩ := bind_some hm
        obtain ⟨h19, h20, h21, cs4, h22, h23⟩ := hG.1.1.1.get e8 (by decide)
        obtain rfl : cs4 = [(.int .u8 x4)] := h22
        refine TQ 8 (by kernel_rfl) rfl (ov_indexAddr_globL rfl underlying84 sizeOf5 rfl rfl rfl h19 h20) (TQ 9 (by kernel_rfl) rfl (ov_load_elem (v := (.int .u8 x4)) isAgg5 rfl rfl h23) (TQ 10 (by kernel_rfl) rfl (ov_build (r := (.agg #[(.int .u8 x3), (.int .u8 x4)])) rfl rfl (fun _ => by kernel_rfl)) ?_))
        refine AL.any (rs := [11]) (by kernel_rfl) (by decide) ?_
        refine ALs.cons (i := 11) rfl (Runs.free rfl) rfl rfl ?_ ?_
        ·
         obtain ⟨x5, e9, hm⟩ := bind_some hm
         obtain ⟨h24, h25, h26, cs5, h27, h28⟩ := RL.get rl8 e9
         obtain rfl : cs5 = [(.int .u8 x5.first), (.int .u8 x5.second)] := h27
         refine OQ.step (OV.quiet (ov_indexAddr_own (i := 0) underlying78 sizeOf80 rfl rfl rfl rfl h24 h25)) ?_
         refine ⟨fun w' s => (s.select [1, 2, 3, 4, 5, 6] (by decide) rfl), ?_⟩
         refine AL.any (rs := [12]) (by kernel_rfl) (by decide) ?_
         refine ALs.cons0 (i := 12) rfl (Runs.free rfl) rfl ?_ ?_
         ·
          have rl9 := RL.set rl8 (y := (Cell.mk x3 x4)) (off := 0) (vs := [(.int .u8 x3), (.int .u8 x4)]) e9 h28 rfl (Nat.le_of_ble_eq_true rfl)
          have e10 := at?_set (y := (Cell.mk x3 x4)) e9
          refine os_store_own (i := 0) (vs := [(.int .u8 x3), (.int .u8 x4)]) sizeOf80 rfl rfl rfl rfl (own_pos h24 h25) rfl rfl (elem_le (off := 0) h26 (Nat.le_of_ble_eq_true rfl)) rfl ?_
          rw [show l4.length = (List.set l4 (Int.toNat i2) (Cell.mk x3 x4)).length from List.length_set.symm]
          obtain ⟨h29, h30, h31, cs6, h32, h33⟩ := rl9.get e10
          obtain rfl : cs6 = [(.int .u8 x3), (.int .u8 x4)] := h32
          refine ⟨fun w' s => (s.select [1, 2, 3, 4, 5, 6] (by decide) rfl), ?_⟩
          refine AL.done (by kernel_rfl) ?_
          refine bn (tn (WP.region (V rfl (ov_add rfl rfl rfl) (Vm rfl (WL.nil (tn ?_))))))
          exact ⟨(IntKind.wrap .i64 (i2 + 1)), (List.set l4 (Int.toNat i2) (Cell.mk x3 x4)), ao7, cap7, (spl xs6 (Int.toNat i2 * encCell.size + 0) [(.int .u8 x3), (.int .u8 x4)]), rl9, (Sub.all rfl), fun w' s => s, hm⟩
         exact ALs.nil
        exact ALs.nil
       exact ALs.nil
      exact ALs.nil
     replace hm := ite_f hc5 hm
     refine WP.exit (then_exit (then_exit (block_here (tn ?_))))
     exact ⟨l4, ao7, cap7, xs6, rl8, (Sub.all rfl), fun w' s => s, hm⟩
    rintro g' S' ⟨l5, ao8, cap8, xs7, rl10, hsub3, hS3, hm⟩
    refine WP.sub hsub3 (WP.weaken hS3 ?_)
    replace hm := (congrFun hk3 l5).symm.trans hm
    obtain ⟨k4, hk4, hm⟩ := joinK_some hm
    refine WP.seq_join (fun g' S' => ∃ (l8 : (List Bool)) (ao11 : Option Addr) (cap11 : Nat) (xs10 : List Value) (l9 : (List Cell)) (ao12 : Option Addr) (cap12 : Nat) (xs11 : List Value), RL H encBool l8 xs10 ∧ RL H encCell l9 xs11 ∧ Sub [(1, (pB b1 0)), (3, (.slice (some ⟨b2, 0, none⟩) 2 2)), (4, (.slice ao11 l8.length cap11)), (7, (.slice ao12 l9.length cap12)), (20, (.slice ao1 p_s.steps.length cap1)), (21, (.int .i64 (p_s.steps.length : Int))), (22, (.int .i64 i1)), (1000000007, (.bool false))] g' ∧ (∀ w', S' w' → St w H [.row 80 (encCell).size l9.length (.slice ao12 l9.length cap12) xs11, .row 80 (encCell).size l3.length (.slice ao5 l3.length cap5) xs4, .row 80 (encCell).size l2.length (.slice ao4 l2.length cap4) xs3, .row 4 (encBool).size l8.length (.slice ao11 l8.length cap11) xs10, .blk b2 78 [(.slice ao4 l2.length cap4), (.slice ao5 l3.length cap5)], .blk b1 24 [(.int .i64 p_s.actuators), (.slice ao1 p_s.steps.length cap1)]] H w') ∧ k4 l8 l9 = some r) ?_ ?_
    ·
     refine WP.seq (WP.region (V rfl (ov_fieldAddr underlying45 rfl rfl rfl sizeOf43 rfl rfl) (Vl 1 isAgg43 rfl (V rfl (ov_len_slice underlying43 rfl rfl) (Vm rfl (WL.nil (tn (WP.block ?_))))))))
     refine WP.loop (fun m3 g' S' => ∃ (i3 : Int) (l6 : (List Bool)) (ao9 : Option Addr) (cap9 : Nat) (xs8 : List Value) (l7 : (List Cell)) (ao10 : Option Addr) (cap10 : Nat) (xs9 : List Value), RL H encBool l6 xs8 ∧ RL H encCell l7 xs9 ∧ Sub [(1, (pB b1 0)), (3, (.slice (some ⟨b2, 0, none⟩) 2 2)), (4, (.slice ao9 l6.length cap9)), (7, (.slice ao10 l7.length cap10)), (20, (.slice ao1 p_s.steps.length cap1)), (21, (.int .i64 (p_s.steps.length : Int))), (22, (.int .i64 i1)), (50, (.slice ao6 x1.strokes.length cap6)), (51, (.int .i64 (x1.strokes.length : Int))), (52, (.int .i64 i3)), (1000000007, (.bool false))] g' ∧ (∀ w', S' w' → St w H [.row 80 (encCell).size l7.length (.slice ao10 l7.length cap10) xs9, .row 80 (encCell).size l3.length (.slice ao5 l3.length cap5) xs4, .row 80 (encCell).size l2.length (.slice ao4 l2.length cap4) xs3, .row 4 (encBool).size l6.length (.slice ao9 l6.length cap9) xs8, .blk b2 78 [(.slice ao4 l2.length cap4), (.slice ao5 l3.length cap5)], .blk b1 24 [(.int .i64 p_s.actuators), (.slice ao1 p_s.steps.length cap1)]] H w') ∧ diagram_cells1_loop3 x1 k4 m3 i3 l6 l7 = some r) ((Int.toNat ((x1.strokes.length : Int) - 0) + 1)) ⟨0, l1, ao3, cap3, xs2, l5, ao8, cap8, xs7, rl4, rl10, (Sub.all rfl), fun w' s => (s.select [0, 2, 3, 4, 5, 6] (by decide) rfl), hm⟩ ?_ ?_
     ·
      rintro g' S' ⟨_, _, _, _, _, _, _, _, _, _, _, _, _, hm⟩
      exact none_some hm
     rintro m3 g' S' ⟨i3, l6, ao9, cap9, xs8, l7, ao10, cap10, xs9, rl11, rl12, hsub4, hS4, hm⟩
     refine WP.sub hsub4 (WP.weaken hS4 ?_)
     rw [diagram_cells1_loop3] at hm
     refine WP.seq (WP.region (V rfl (ov_lss rfl rfl rfl) (WL.nil (tn (WP.seq ?_)))))
     refine WP.cond rfl (fun hc6 => ?_) (fun hc6 => ?_)
     ·
      replace hm := ite_t hc6 hm
      refine WP.skip (tn (WP.seq (WP.block (WP.seq (WP.region ?_)))))
      obtain ⟨x6, e11, hm⟩ := bind_some hm
      obtain ⟨h34, h35, h36, cs7, h37, h38⟩ := h3.get e11 (by decide)
      obtain rfl : cs7 = [(.int .i64 x6.actuator), (.bool x6.out)] := h37
      refine V rfl (ov_indexAddr underlying43 sizeOf48 rfl rfl rfl h34 h35 h36) (V rfl (ov_load_elems (vs := [(.int .i64 x6.actuator), (.bool x6.out)]) isAgg48 sizeOf48 rfl rfl rfl h38 h36) ?_)
      refine ws rfl (os_alloc (cs := [(.int .i64 0), (.bool false)]) zeroValue48 rfl rfl (fun b6 => ?_))
      refine ws0 rfl (os_store (i := 0) (vs := [(.int .i64 x6.actuator), (.bool x6.out)]) (cs' := [(.int .i64 x6.actuator), (.bool x6.out)]) sizeOf48 rfl rfl rfl rfl rfl rfl rfl rfl rfl ?_)
      refine WL.nil (tn (WP.seq (WP.region (Vm rfl (V rfl (ov_fieldAddr underlying48 rfl rfl rfl sizeOf3 rfl rfl) (Vl 0 isAgg3 rfl (V rfl (ov_fieldAddr underlying48 rfl rfl rfl sizeOf4 rfl rfl) (Vl 0 isAgg4 rfl ?_))))))))
      obtain ⟨x7, e12, hm⟩ := bind_some hm
      obtain ⟨h39, h40, h41, cs8, h42, h43⟩ := RL.get rl11 e12
      obtain rfl : cs8 = [(.bool x7)] := h42
      refine V rfl (ov_indexAddr_own (i := 4) underlying49 sizeOf4 rfl rfl rfl rfl h39 h40) ?_
      have rl13 := RL.set rl11 (y := x6.out) (off := 0) (vs := [(.bool x6.out)]) e12 h43 rfl (Nat.le_of_ble_eq_true rfl)
      have e13 := at?_set (y := x6.out) e12
      refine ws0 rfl (os_store_own (i := 4) (vs := [(.bool x6.out)]) sizeOf4 rfl rfl rfl rfl (own_pos h39 h40) rfl rfl (elem_le (off := 0) h41 (Nat.le_of_ble_eq_true rfl)) rfl ?_)
      rw [show l6.length = (List.set l6 (Int.toNat x6.actuator) x6.out).length from List.length_set.symm]
      obtain ⟨h44, h45, h46, cs9, h47, h48⟩ := rl13.get e13
      obtain rfl : cs9 = [(.bool x6.out)] := h47
      refine WL.nil (tn ?_)
      refine WP.region_any (S₀ := St w H [.blk b6 48 [(.int .i64 x6.actuator), (.bool x6.out)], .row 80 (encCell).size l3.length (.slice ao5 l3.length cap5) xs4, .row 80 (encCell).size l2.length (.slice ao4 l2.length cap4) xs3, .row 4 (encBool).size (List.set l6 (Int.toNat x6.actuator) x6.out).length (.slice ao9 (List.set l6 (Int.toNat x6.actuator) x6.out).length cap9) (spl xs8 (Int.toNat x6.actuator * encBool.size + 0) [(.bool x6.out)]), .blk b2 78 [(.slice ao4 l2.length cap4), (.slice ao5 l3.length cap5)], .blk b1 24 [(.int .i64 p_s.actuators), (.slice ao1 p_s.steps.length cap1)]] H) 16 rfl (by kernel_rfl) (fun w' s => (s.select [0, 2, 3, 4, 5, 6] (by decide) rfl)) (fun _ s => s.drew) ?_
      refine TQ 0 (by kernel_rfl) rfl (ov_move rfl rfl) (TQ 1 (by kernel_rfl) rfl (ov_fieldAddr underlying48 rfl rfl rfl sizeOf3 rfl rfl) (TQ 2 (by kernel_rfl) rfl (ov_load_box (i := 0) isAgg3 rfl rfl rfl rfl) (TQ 3 (by kernel_rfl) rfl (ov_fieldAddr underlying48 rfl rfl rfl sizeOf4 rfl rfl) (TQ 4 (by kernel_rfl) rfl (ov_load_box (i := 0) isAgg4 rfl rfl rfl rfl) (TQ 8 (by kernel_rfl) rfl (ov_fieldAddr underlying48 rfl rfl rfl sizeOf4 rfl rfl) (TQ 9 (by kernel_rfl) rfl (ov_load_box (i := 0) isAgg4 rfl rfl rfl rfl) ?_))))))
      refine AL.any (rs := [5]) (by kernel_rfl) (by decide) ?_
      refine ALs.cons (i := 5) rfl (Runs.free rfl) rfl rfl ?_ ?_
      ·
       obtain ⟨r3, e14, hm⟩ := bind_some hm
       refine OQ.step (oq_con (r := (.int .i64 r3)) call87 rfl rfl (fun w' s => ⟨_, (diagram_index_con x6.out  w' H s.hold hG r3 e14)⟩)) ?_
       refine ⟨fun w' s => (s.select [0, 2, 3, 4, 5, 6] (by decide) rfl), ?_⟩
       obtain ⟨x8, e15, hm⟩ := bind_some hm
       obtain ⟨h49, h50, h51, cs10, h52, h53⟩ := hG.1.1.2.get e15 (by decide)
       obtain rfl : cs10 = [(.int .u8 x8)] := h52
       refine TQ 6 (by kernel_rfl) rfl (ov_indexAddr_globL rfl underlying84 sizeOf5 rfl rfl rfl h49 h50) (TQ 7 (by kernel_rfl) rfl (ov_load_elem (v := (.int .u8 x8)) isAgg5 rfl rfl h53) ?_)
       refine AL.any (rs := [10]) (by kernel_rfl) (by decide) ?_
       refine ALs.cons (i := 10) rfl (Runs.free rfl) rfl rfl ?_ ?_
       ·
        obtain ⟨r4, e16, hm⟩ := bind_some hm
        refine OQ.step (oq_con (r := (.int .i64 r4)) call87 rfl rfl (fun w' s => ⟨_, (diagram_index_con x6.out  w' H s.hold hG r4 e16)⟩)) ?_
        refine ⟨fun w' s => (s.select [0, 2, 3, 4, 5, 6] (by decide) rfl), ?_⟩
        obtain ⟨x9, e17, hm⟩ := bind_some hm
        obtain ⟨h54, h55, h56, cs11, h57, h58⟩ := hG.1.1.1.get e17 (by decide)
        obtain rfl : cs11 = [(.int .u8 x9)] := h57
        refine TQ 11 (by kernel_rfl) rfl (ov_indexAddr_globL rfl underlying84 sizeOf5 rfl rfl rfl h54 h55) (TQ 12 (by kernel_rfl) rfl (ov_load_elem (v := (.int .u8 x9)) isAgg5 rfl rfl h58) (TQ 13 (by kernel_rfl) rfl (ov_build (r := (.agg #[(.int .u8 x8), (.int .u8 x9)])) rfl rfl (fun _ => by kernel_rfl)) ?_))
        refine AL.any (rs := [14]) (by kernel_rfl) (by decide) ?_
        refine ALs.cons (i := 14) rfl (Runs.free rfl) rfl rfl ?_ ?_
        ·
         obtain ⟨x10, e18, hm⟩ := bind_some hm
         obtain ⟨h59, h60, h61, cs12, h62, h63⟩ := RL.get rl12 e18
         obtain rfl : cs12 = [(.int .u8 x10.first), (.int .u8 x10.second)] := h62
         refine OQ.step (OV.quiet (ov_indexAddr_own (i := 1) underlying78 sizeOf80 rfl rfl rfl rfl h59 h60)) ?_
         refine ⟨fun w' s => (s.select [0, 2, 3, 4, 5, 6] (by decide) rfl), ?_⟩
         refine AL.any (rs := [15]) (by kernel_rfl) (by decide) ?_
         refine ALs.cons0 (i := 15) rfl (Runs.free rfl) rfl ?_ ?_
         ·
          have rl14 := RL.set rl12 (y := (Cell.mk x8 x9)) (off := 0) (vs := [(.int .u8 x8), (.int .u8 x9)]) e18 h63 rfl (Nat.le_of_ble_eq_true rfl)
          have e19 := at?_set (y := (Cell.mk x8 x9)) e18
          refine os_store_own (i := 1) (vs := [(.int .u8 x8), (.int .u8 x9)]) sizeOf80 rfl rfl rfl rfl (own_pos h59 h60) rfl rfl (elem_le (off := 0) h61 (Nat.le_of_ble_eq_true rfl)) rfl ?_
          rw [show l7.length = (List.set l7 (Int.toNat x6.actuator) (Cell.mk x8 x9)).length from List.length_set.symm]
          obtain ⟨h64, h65, h66, cs13, h67, h68⟩ := rl14.get e19
          obtain rfl : cs13 = [(.int .u8 x8), (.int .u8 x9)] := h67
          refine ⟨fun w' s => (s.select [0, 2, 3, 4, 5, 6] (by decide) rfl), ?_⟩
          refine AL.done (by kernel_rfl) ?_
          refine bn (tn (WP.region (V rfl (ov_add rfl rfl rfl) (Vm rfl (WL.nil (tn ?_))))))
          exact ⟨(IntKind.wrap .i64 (i3 + 1)), (List.set l6 (Int.toNat x6.actuator) x6.out), ao9, cap9, (spl xs8 (Int.toNat x6.actuator * encBool.size + 0) [(.bool x6.out)]), (List.set l7 (Int.toNat x6.actuator) (Cell.mk x8 x9)), ao10, cap10, (spl xs9 (Int.toNat x6.actuator * encCell.size + 0) [(.int .u8 x8), (.int .u8 x9)]), rl13, rl14, (Sub.all rfl), fun w' s => (s.select [1, 2, 3, 4, 5, 6] (by decide) rfl), hm⟩
         exact ALs.nil
        exact ALs.nil
       exact ALs.nil
      exact ALs.nil
     replace hm := ite_f hc6 hm
     refine WP.exit (then_exit (then_exit (block_here (tn ?_))))
     exact ⟨l6, ao9, cap9, xs8, l7, ao10, cap10, xs9, rl11, rl12, (Sub.all rfl), fun w' s => s, hm⟩
    rintro g' S' ⟨l8, ao11, cap11, xs10, l9, ao12, cap12, xs11, rl15, rl16, hsub5, hS5, hm⟩
    refine WP.sub hsub5 (WP.weaken hS5 ?_)
    replace hm := (congrFun (congrFun hk4 l8) l9).symm.trans hm
    refine WP.seq (WP.region (Vm rfl (V rfl (ov_len_slice underlying76 rfl rfl) (Vm rfl (WL.nil (tn (WP.block ?_)))))))
    refine WP.loop (fun m4 g' S' => ∃ (i4 : Int) (l10 : (List Cell)) (ao13 : Option Addr) (cap13 : Nat) (xs12 : List Value) (l11 : (List Cell)) (ao14 : Option Addr) (cap14 : Nat) (xs13 : List Value), RL H encCell l10 xs12 ∧ RL H encCell l11 xs13 ∧ Sub [(1, (pB b1 0)), (3, (.slice (some ⟨b2, 0, none⟩) 2 2)), (4, (.slice ao11 l8.length cap11)), (7, (.slice ao12 l9.length cap12)), (20, (.slice ao1 p_s.steps.length cap1)), (21, (.int .i64 (p_s.steps.length : Int))), (22, (.int .i64 i1)), (79, (.int .i64 2)), (80, (.int .i64 i4)), (1000000007, (.bool false))] g' ∧ (∀ w', S' w' → St w H [.row 80 (encCell).size l9.length (.slice ao12 l9.length cap12) xs11, .row 80 (encCell).size l11.length (.slice ao14 l11.length cap14) xs13, .row 80 (encCell).size l10.length (.slice ao13 l10.length cap13) xs12, .row 4 (encBool).size l8.length (.slice ao11 l8.length cap11) xs10, .blk b2 78 [(.slice ao13 l10.length cap13), (.slice ao14 l11.length cap14)], .blk b1 24 [(.int .i64 p_s.actuators), (.slice ao1 p_s.steps.length cap1)]] H w') ∧ diagram_cells2_loop4 k2 l9 l8 m4 i4 l10 l11 = some r) ((Int.toNat (2 - 0) + 1)) ⟨0, l2, ao4, cap4, xs3, l3, ao5, cap5, xs4, rl5, rl6, (Sub.all rfl), fun w' s => s, hm⟩ ?_ ?_
    ·
     rintro g' S' ⟨_, _, _, _, _, _, _, _, _, _, _, _, _, hm⟩
     exact none_some hm
    rintro m4 g' S' ⟨i4, l10, ao13, cap13, xs12, l11, ao14, cap14, xs13, rl17, rl18, hsub6, hS6, hm⟩
    refine WP.sub hsub6 (WP.weaken hS6 ?_)
    rw [diagram_cells2_loop4] at hm
    refine WP.seq (WP.region (V rfl (ov_lss rfl rfl rfl) (WL.nil (tn (WP.seq ?_)))))
    refine WP.cond rfl (fun hc7 => ?_) (fun hc7 => ?_)
    ·
     replace hm := ite_t hc7 hm
     refine WP.skip (tn (WP.seq (WP.block (WP.seq (WP.region (Vm rfl (Va rfl (WL.nil (tn ?_)))))))))
     refine WP.region_any (S₀ := St w H [.row 80 (encCell).size l9.length (.slice ao12 l9.length cap12) xs11, .row 4 (encBool).size l8.length (.slice ao11 l8.length cap11) xs10, .blk b1 24 [(.int .i64 p_s.actuators), (.slice ao1 p_s.steps.length cap1)]] H) 14 rfl (by kernel_rfl) (fun w' s => (s.select [0, 3, 5] (by decide) rfl)) (fun _ s => s.drew) ?_
     refine TQ 0 (by kernel_rfl) rfl (ov_move rfl rfl) (TQ 1 (by kernel_rfl) rfl (ov_move rfl rfl) (TQ 2 (by kernel_rfl) rfl (ov_move rfl rfl) (TQ 3 (by kernel_rfl) rfl (ov_move rfl rfl) ?_)))
     rcases Bool.eq_false_or_eq_true (i4 == 0) with hc8 | hc8
     ·
      replace hm := ite_t hc8 hm
      refine TQ 4 (by kernel_rfl) rfl (ov_indexAddr_bsl (j := 0) underlying76 sizeOf78 rfl rfl rfl (eq_of_beq hc8) rfl) (TQ 6 (by kernel_rfl) rfl (ov_move rfl rfl) (TQ 7 (by kernel_rfl) rfl (ov_move rfl rfl) ?_))
      obtain ⟨x11, e20, hm⟩ := bind_some hm
      obtain ⟨h69, h70, h71, cs14, h72, h73⟩ := RL.get rl16 e20
      obtain rfl : cs14 = [(.int .u8 x11.first), (.int .u8 x11.second)] := h72
      refine TQ 8 (by kernel_rfl) rfl (ov_indexAddr_own (i := 0) underlying78 sizeOf80 rfl rfl rfl rfl h69 h70) (TQ 9 (by kernel_rfl) rfl (ov_load_owns (i := 0) (vs := [(.int .u8 x11.first), (.int .u8 x11.second)]) isAgg80 sizeOf80 rfl rfl rfl (own_pos h69 h70) rfl (fun j u hu => elem_cell h73 hu)) ?_)
      refine AL.any (rs := [5, 10]) (by kernel_rfl) (by decide) ?_
      refine ALs.cons (i := 5) rfl (Runs.free rfl) rfl rfl ?_ ?_
      ·
       refine OQ.step (OV.quiet (ov_load_box (i := 4) isAgg78 rfl rfl rfl rfl)) ?_
       refine ⟨fun w' s => (s.select [0, 3, 5] (by decide) rfl), ?_⟩
       refine AL.any (rs := [10]) (by kernel_rfl) (by decide) ?_
       refine ALs.cons (i := 10) rfl (Runs.free rfl) rfl rfl ?_ ?_
       ·
        have rl19 : RL H encCell ([x11] : List Cell) [(.int .u8 x11.first), (.int .u8 x11.second)] := RL.cons (cs := [(.int .u8 x11.first), (.int .u8 x11.second)]) (xs := []) rfl (RL.nil _ _)
        refine os_buildSlice (cs := [(.int .u8 x11.first), (.int .u8 x11.second)]) (E := 80) (sz := 2) rfl rfl (fun _ => by kernel_rfl) rfl (by decide) (fun b7 => ?_)
        refine ⟨fun w' s => (s.select [1, 4, 6] (by decide) rfl), ?_⟩
        refine AL.any (rs := [11]) (by kernel_rfl) (by decide) ?_
        refine ALs.cons (i := 11) rfl (Runs.free rfl) rfl rfl ?_ ?_
        ·
         obtain ⟨l12, e21, hm⟩ := bind_some hm
         refine os_app (i := 3) (j := 0) (En := encCell) (xs := xs12) (ys := [(.int .u8 x11.first), (.int .u8 x11.second)]) underlying78 (by kernel_rfl : (prog.info? 80).map (fun i => (i.zero, i.size, i.bytes)) = some (some (.agg #[(.int .u8 0), (.int .u8 0)]), (encCell).size, 2)) rfl (by decide) rfl rfl rfl rfl rfl rfl rl17 rl19 e21 (fun ao15 cap15 rl20 => ?_)
         refine ⟨fun w' s => (s.select [1, 4, 6] (by decide) rfl), ?_⟩
         refine TQ 12 (by kernel_rfl) rfl (ov_indexAddr_bsl (j := 0) underlying76 sizeOf78 rfl rfl rfl (eq_of_beq hc8) rfl) ?_
         refine AL.any (rs := [13]) (by kernel_rfl) (by decide) ?_
         refine ALs.cons0 (i := 13) rfl (Runs.free rfl) rfl ?_ ?_
         ·
          refine os_store (i := 5) (vs := [(.slice ao15 (l10 ++ ([x11] : List Cell)).length cap15)]) (cs' := [(.slice ao15 (l10 ++ ([x11] : List Cell)).length cap15), (.slice ao14 l11.length cap14)]) sizeOf78 rfl rfl rfl rfl rfl rfl rfl rfl rfl ?_
          refine ⟨fun w' s => (s.select [1, 4, 6] (by decide) rfl), ?_⟩
          refine AL.done (by kernel_rfl) ?_
          refine bn (tn (WP.region (V rfl (ov_add rfl rfl rfl) (Vm rfl (WL.nil (tn ?_))))))
          exact ⟨(IntKind.wrap .i64 (i4 + 1)), (l10 ++ ([x11] : List Cell)), ao15, cap15, (xs12 ++ [(.int .u8 x11.first), (.int .u8 x11.second)]), l11, ao14, cap14, xs13, rl20, rl18, (Sub.all rfl), fun w' s => (s.select [1, 2, 3, 4, 5, 6] (by decide) rfl), hm⟩
         exact ALs.nil
        exact ALs.nil
       exact ALs.nil
      refine ALs.cons (i := 10) rfl (Runs.free rfl) rfl rfl ?_ ?_
      ·
       have rl19 : RL H encCell ([x11] : List Cell) [(.int .u8 x11.first), (.int .u8 x11.second)] := RL.cons (cs := [(.int .u8 x11.first), (.int .u8 x11.second)]) (xs := []) rfl (RL.nil _ _)
       refine os_buildSlice (cs := [(.int .u8 x11.first), (.int .u8 x11.second)]) (E := 80) (sz := 2) rfl rfl (fun _ => by kernel_rfl) rfl (by decide) (fun b7 => ?_)
       refine ⟨fun w' s => (s.select [1, 4, 6] (by decide) rfl), ?_⟩
       refine AL.any (rs := [5]) (by kernel_rfl) (by decide) ?_
       refine ALs.cons (i := 5) rfl (Runs.free rfl) rfl rfl ?_ ?_
       ·
        refine OQ.step (OV.quiet (ov_load_box (i := 5) isAgg78 rfl rfl rfl rfl)) ?_
        refine ⟨fun w' s => (s.select [1, 4, 6] (by decide) rfl), ?_⟩
        refine AL.any (rs := [11]) (by kernel_rfl) (by decide) ?_
        refine ALs.cons (i := 11) rfl (Runs.free rfl) rfl rfl ?_ ?_
        ·
         obtain ⟨l12, e21, hm⟩ := bind_some hm
         refine os_app (i := 3) (j := 0) (En := encCell) (xs := xs12) (ys := [(.int .u8 x11.first), (.int .u8 x11.second)]) underlying78 (by kernel_rfl : (prog.info? 80).map (fun i => (i.zero, i.size, i.bytes)) = some (some (.agg #[(.int .u8 0), (.int .u8 0)]), (encCell).size, 2)) rfl (by decide) rfl rfl rfl rfl rfl rfl rl17 rl19 e21 (fun ao15 cap15 rl20 => ?_)
         refine ⟨fun w' s => (s.select [1, 4, 6] (by decide) rfl), ?_⟩
         refine TQ 12 (by kernel_rfl) rfl (ov_indexAddr_bsl (j := 0) underlying76 sizeOf78 rfl rfl rfl (eq_of_beq hc8) rfl) ?_
         refine AL.any (rs := [13]) (by kernel_rfl) (by decide) ?_
         refine ALs.cons0 (i := 13) rfl (Runs.free rfl) rfl ?_ ?_
         ·
          refine os_store (i := 5) (vs := [(.slice ao15 (l10 ++ ([x11] : List Cell)).length cap15)]) (cs' := [(.slice ao15 (l10 ++ ([x11] : List Cell)).length cap15), (.slice ao14 l11.length cap14)]) sizeOf78 rfl rfl rfl rfl rfl rfl rfl rfl rfl ?_
          refine ⟨fun w' s => (s.select [1, 4, 6] (by decide) rfl), ?_⟩
          refine AL.done (by kernel_rfl) ?_
          refine bn (tn (WP.region (V rfl (ov_add rfl rfl rfl) (Vm rfl (WL.nil (tn ?_))))))
          exact ⟨(IntKind.wrap .i64 (i4 + 1)), (l10 ++ ([x11] : List Cell)), ao15, cap15, (xs12 ++ [(.int .u8 x11.first), (.int .u8 x11.second)]), l11, ao14, cap14, xs13, rl20, rl18, (Sub.all rfl), fun w' s => (s.select [1, 2, 3, 4, 5, 6] (by decide) rfl), hm⟩
         exact ALs.nil
        exact ALs.nil
       exact ALs.nil
      exact ALs.nil
     replace hm := ite_f hc8 hm
     rcases Bool.eq_false_or_eq_true (i4 == 1) with hc9 | hc9
     ·
      replace hm := ite_t hc9 hm
      refine TQ 4 (by kernel_rfl) rfl (ov_indexAddr_bsl (j := 1) underlying76 sizeOf78 rfl rfl rfl (eq_of_beq hc9) rfl) (TQ 6 (by kernel_rfl) rfl (ov_move rfl rfl) (TQ 7 (by kernel_rfl) rfl (ov_move rfl rfl) ?_))
      obtain ⟨x12, e22, hm⟩ := bind_some hm
      obtain ⟨h74, h75, h76, cs15, h77, h78⟩ := RL.get rl16 e22
      obtain rfl : cs15 = [(.int .u8 x12.first), (.int .u8 x12.second)] := h77
      refine TQ 8 (by kernel_rfl) rfl (ov_indexAddr_own (i := 0) underlying78 sizeOf80 rfl rfl rfl rfl h74 h75) (TQ 9 (by kernel_rfl) rfl (ov_load_owns (i := 0) (vs := [(.int .u8 x12.first), (.int .u8 x12.second)]) isAgg80 sizeOf80 rfl rfl rfl (own_pos h74 h75) rfl (fun j u hu => elem_cell h78 hu)) ?_)
      refine AL.any (rs := [5, 10]) (by kernel_rfl) (by decide) ?_
      refine ALs.cons (i := 5) rfl (Runs.free rfl) rfl rfl ?_ ?_
      ·
       refine OQ.step (OV.quiet (ov_load_box (i := 4) isAgg78 rfl rfl rfl rfl)) ?_
       refine ⟨fun w' s => (s.select [0, 3, 5] (by decide) rfl), ?_⟩
       refine AL.any (rs := [10]) (by kernel_rfl) (by decide) ?_
       refine ALs.cons (i := 10) rfl (Runs.free rfl) rfl rfl ?_ ?_
       ·
        have rl21 : RL H encCell ([x12] : List Cell) [(.int .u8 x12.first), (.int .u8 x12.second)] := RL.cons (cs := [(.int .u8 x12.first), (.int .u8 x12.second)]) (xs := []) rfl (RL.nil _ _)
        refine os_buildSlice (cs := [(.int .u8 x12.first), (.int .u8 x12.second)]) (E := 80) (sz := 2) rfl rfl (fun _ => by kernel_rfl) rfl (by decide) (fun b8 => ?_)
        refine ⟨fun w' s => (s.select [1, 4, 6] (by decide) rfl), ?_⟩
        refine AL.any (rs := [11]) (by kernel_rfl) (by decide) ?_
        refine ALs.cons (i := 11) rfl (Runs.free rfl) rfl rfl ?_ ?_
        ·
         obtain ⟨l13, e23, hm⟩ := bind_some hm
         refine os_app (i := 2) (j := 0) (En := encCell) (xs := xs13) (ys := [(.int .u8 x12.first), (.int .u8 x12.second)]) underlying78 (by kernel_rfl : (prog.info? 80).map (fun i => (i.zero, i.size, i.bytes)) = some (some (.agg #[(.int .u8 0), (.int .u8 0)]), (encCell).size, 2)) rfl (by decide) rfl rfl rfl rfl rfl rfl rl18 rl21 e23 (fun ao16 cap16 rl22 => ?_)
         refine ⟨fun w' s => (s.select [1, 4, 6] (by decide) rfl), ?_⟩
         refine TQ 12 (by kernel_rfl) rfl (ov_indexAddr_bsl (j := 1) underlying76 sizeOf78 rfl rfl rfl (eq_of_beq hc9) rfl) ?_
         refine AL.any (rs := [13]) (by kernel_rfl) (by decide) ?_
         refine ALs.cons0 (i := 13) rfl (Runs.free rfl) rfl ?_ ?_
         ·
          refine os_store (i := 5) (vs := [(.slice ao16 (l11 ++ ([x12] : List Cell)).length cap16)]) (cs' := [(.slice ao13 l10.length cap13), (.slice ao16 (l11 ++ ([x12] : List Cell)).length cap16)]) sizeOf78 rfl rfl rfl rfl rfl rfl rfl rfl rfl ?_
          refine ⟨fun w' s => (s.select [1, 4, 6] (by decide) rfl), ?_⟩
          refine AL.done (by kernel_rfl) ?_
          refine bn (tn (WP.region (V rfl (ov_add rfl rfl rfl) (Vm rfl (WL.nil (tn ?_))))))
          exact ⟨(IntKind.wrap .i64 (i4 + 1)), l10, ao13, cap13, xs12, (l11 ++ ([x12] : List Cell)), ao16, cap16, (xs13 ++ [(.int .u8 x12.first), (.int .u8 x12.second)]), rl17, rl22, (Sub.all rfl), fun w' s => (s.select [1, 2, 3, 4, 5, 6] (by decide) rfl), hm⟩
         exact ALs.nil
        exact ALs.nil
       exact ALs.nil
      refine ALs.cons (i := 10) rfl (Runs.free rfl) rfl rfl ?_ ?_
      ·
       have rl21 : RL H encCell ([x12] : List Cell) [(.int .u8 x12.first), (.int .u8 x12.second)] := RL.cons (cs := [(.int .u8 x12.first), (.int .u8 x12.second)]) (xs := []) rfl (RL.nil _ _)
       refine os_buildSlice (cs := [(.int .u8 x12.first), (.int .u8 x12.second)]) (E := 80) (sz := 2) rfl rfl (fun _ => by kernel_rfl) rfl (by decide) (fun b8 => ?_)
       refine ⟨fun w' s => (s.select [1, 4, 6] (by decide) rfl), ?_⟩
       refine AL.any (rs := [5]) (by kernel_rfl) (by decide) ?_
       refine ALs.cons (i := 5) rfl (Runs.free rfl) rfl rfl ?_ ?_
       ·
        refine OQ.step (OV.quiet (ov_load_box (i := 5) isAgg78 rfl rfl rfl rfl)) ?_
        refine ⟨fun w' s => (s.select [1, 4, 6] (by decide) rfl), ?_⟩
        refine AL.any (rs := [11]) (by kernel_rfl) (by decide) ?_
        refine ALs.cons (i := 11) rfl (Runs.free rfl) rfl rfl ?_ ?_
        ·
         obtain ⟨l13, e23, hm⟩ := bind_some hm
         refine os_app (i := 2) (j := 0) (En := encCell) (xs := xs13) (ys := [(.int .u8 x12.first), (.int .u8 x12.second)]) underlying78 (by kernel_rfl : (prog.info? 80).map (fun i => (i.zero, i.size, i.bytes)) = some (some (.agg #[(.int .u8 0), (.int .u8 0)]), (encCell).size, 2)) rfl (by decide) rfl rfl rfl rfl rfl rfl rl18 rl21 e23 (fun ao16 cap16 rl22 => ?_)
         refine ⟨fun w' s => (s.select [1, 4, 6] (by decide) rfl), ?_⟩
         refine TQ 12 (by kernel_rfl) rfl (ov_indexAddr_bsl (j := 1) underlying76 sizeOf78 rfl rfl rfl (eq_of_beq hc9) rfl) ?_
         refine AL.any (rs := [13]) (by kernel_rfl) (by decide) ?_
         refine ALs.cons0 (i := 13) rfl (Runs.free rfl) rfl ?_ ?_
         ·
          refine os_store (i := 5) (vs := [(.slice ao16 (l11 ++ ([x12] : List Cell)).length cap16)]) (cs' := [(.slice ao13 l10.length cap13), (.slice ao16 (l11 ++ ([x12] : List Cell)).length cap16)]) sizeOf78 rfl rfl rfl rfl rfl rfl rfl rfl rfl ?_
          refine ⟨fun w' s => (s.select [1, 4, 6] (by decide) rfl), ?_⟩
          refine AL.done (by kernel_rfl) ?_
          refine bn (tn (WP.region (V rfl (ov_add rfl rfl rfl) (Vm rfl (WL.nil (tn ?_))))))
          exact ⟨(IntKind.wrap .i64 (i4 + 1)), l10, ao13, cap13, xs12, (l11 ++ ([x12] : List Cell)), ao16, cap16, (xs13 ++ [(.int .u8 x12.first), (.int .u8 x12.second)]), rl17, rl22, (Sub.all rfl), fun w' s => (s.select [1, 2, 3, 4, 5, 6] (by decide) rfl), hm⟩
         exact ALs.nil
        exact ALs.nil
       exact ALs.nil
      exact ALs.nil
     replace hm := ite_f hc9 hm
     exact (none_some hm).elim
    replace hm := ite_f hc7 hm
    refine WP.exit (then_exit (then_exit (block_here (bn (tn ?_)))))
    exact ⟨l8, ao11, cap11, xs10, l10, ao13, cap13, xs12, l11, ao14, cap14, xs13, rl15, rl17, rl18, (Sub.all rfl), fun w' s => (s.select [1, 2, 3, 4, 5] (by decide) rfl), hm⟩
   rintro g' S' ⟨l14, ao17, cap17, xs14, l15, ao18, cap18, xs15, l16, ao19, cap19, xs16, rl23, rl24, rl25, hsub7, hS7, hm⟩
   refine WP.sub hsub7 (WP.weaken hS7 ?_)
   replace hm := (congrFun (congrFun (congrFun hk2 l14) l15) l16).symm.trans hm
   refine WP.region (V rfl (ov_add rfl rfl rfl) (Vm rfl (WL.nil (tn ?_))))
   exact ⟨(IntKind.wrap .i64 (i1 + 1)), l14, ao17, cap17, xs14, l15, ao18, cap18, xs15, l16, ao19, cap19, xs16, rl23, rl24, rl25, (Sub.all rfl), fun w' s => s, hm⟩
  replace hm := ite_f hc3 hm
  refine WP.exit (then_exit (then_exit (block_here (tn ?_))))
  exact ⟨l2, ao4, cap4, xs3, l3, ao5, cap5, xs4, rl5, rl6, (Sub.all rfl), fun w' s => (s.select [0, 1, 3] (by decide) rfl), hm⟩
 rintro g' S' ⟨l17, ao20, cap20, xs17, l18, ao21, cap21, xs18, rl26, rl27, hsub8, hS8, hm⟩
 refine WP.sub hsub8 (WP.weaken hS8 ?_)
 replace hm := (congrFun (congrFun hk1 l17) l18).symm.trans hm
 refine WP.seq (WP.region (Vm rfl ?_))
 refine WL.weaken (fun _ s => s.select [1, 0, 2] (by decide) rfl) ?_
 refine WL.held rl26 (fun H1 hc10 hle1 h79 => ?_)
 replace rl27 := rl27.mono hle1
 refine WL.held rl27 (fun H2 hc11 hle2 h80 => ?_)
 replace h79 := h79.mono hle2
 have rl28 : RL H2 (encSl encCell) ([l17, l18] : List (List Cell)) [(.slice ao20 l17.length cap20), (.slice ao21 l18.length cap21)] := RL.cons (cs := [(.slice ao20 l17.length cap20)]) (xs := [(.slice ao21 l18.length cap21)]) ⟨ao20, cap20, rfl, h79, hc10⟩ (RL.cons (cs := [(.slice ao21 l18.length cap21)]) (xs := []) ⟨ao21, cap21, rfl, h80, hc11⟩ (RL.nil _ _))
 refine WL.weaken (fun _ s => s.blk_rowN (N := 2) (sz := 1) rfl (by decide)) ?_
 refine Va rfl (WL.nil (tn (WP.ret ?_)))
 obtain rfl := Option.some.inj hm
 refine retQ_ret results43 (Res.tmp rfl Res.nil) rfl (fun w' s => ⟨s.below, ?_⟩)
 obtain ⟨h81, hc12⟩ := s.ret_row (i := 0) rfl rl28
 exact ⟨(some ⟨b2, 0, none⟩), 2, rfl, h81, hc12⟩
theorem diagram_cells3_con (p_s : Sequence) (ao1 : Option Addr) (cap1 : Nat) (w : World) (H : Heap) (hH : Le H (hp w)) (h1 : SL H encStep ao1 p_s.steps) (hc1 : p_s.steps.length ≤ cap1) (hG : Glob H) (hn : (p_s.actuators == 3) = true) (r : (List (List Cell))) (hm : diagram_cells3 p_s = some r) :
  Con prog 43 [(.agg #[(.int .i64 p_s.actuators), (.slice ao1 p_s.steps.length cap1)])] w H (fun v H' => ∃ (ao2 : Option Addr) (cap2 : Nat), v = (.slice ao2 r.length cap2) ∧ SL H' (encSl encCell) ao2 r ∧ r.length ≤ cap2) := by
 unfold diagram_cells3 at hm
 refine con_of hH func43 rfl 99 ntmps43 rfl ?_
 refine WP.seq (WP.region ?_)
 refine ws rfl (os_box (cs := [(.int .i64 p_s.actuators), (.slice ao1 p_s.steps.length cap1)]) rfl rfl rfl (fun b1 => ?_))
 refine Va rfl (WL.nil (tn (WP.seq (WP.region (V rfl (ov_fieldAddr underlying24 rfl rfl rfl sizeOf3 rfl rfl) (Vl 0 isAgg3 rfl ?_))))))
 refine ws rfl (os_makeSlice_n (N := 3) (sz := 1) (bytes := 24) (z := (.slice none 0 0)) (cs := [(.slice none 0 0), (.slice none 0 0), (.slice none 0 0)]) underlying76 (by kernel_rfl) (by kernel_rfl) rfl rfl rfl (eq_of_beq hn) (by decide) (by decide) (fun b2 => ?_))
 refine Va rfl (WL.nil (tn (WP.seq (WP.region (V rfl (ov_fieldAddr underlying24 rfl rfl rfl sizeOf3 rfl rfl) (Vl 1 isAgg3 rfl ?_))))))
 obtain ⟨u1, e1, hm⟩ := bind_some hm
 replace e1 := guardO_some e1
 refine ws rfl (os_makeSlice (En := encBool) (z := (.bool false)) (y0 := false) (bytes := 1) underlying49 (by kernel_rfl) rfl (by decide) rfl rfl rfl e1 (fun b3 xs1 rl1 => ?_))
 refine Va rfl (WL.nil (tn ?_))
 obtain ⟨k1, hk1, hm⟩ := joinK_some hm
 refine WP.seq_join (fun g' S' => ∃ (l21 : (List Cell)) (ao24 : Option Addr) (cap24 : Nat) (xs20 : List Value) (l22 : (List Cell)) (ao25 : Option Addr) (cap25 : Nat) (xs21 : List Value) (l23 : (List Cell)) (ao26 : Option Addr) (cap26 : Nat) (xs22 : List Value), RL H encCell l21 xs20 ∧ RL H encCell l22 xs21 ∧ RL H encCell l23 xs22 ∧ Sub [(3, (.slice (some ⟨b2, 0, none⟩) 3 3)), (1000000007, (.bool false))] g' ∧ (∀ w', S' w' → St w H [.row 80 (encCell).size l23.length (.slice ao26 l23.length cap26) xs22, .row 80 (encCell).size l22.length (.slice ao25 l22.length cap25) xs21, .row 80 (encCell).size l21.length (.slice ao24 l21.length cap24) xs20, .blk b2 78 [(.slice ao24 l21.length cap24), (.slice ao25 l22.length cap25), (.slice ao26 l23.length cap26)]] H w') ∧ k1 l21 l22 l23 = some r) ?_ ?_
 ·
  refine WP.seq (WP.region (V rfl (ov_fieldAddr underlying24 rfl rfl rfl sizeOf22 rfl rfl) (Vl 2 isAgg22 rfl (V rfl (ov_len_slice underlying22 rfl rfl) (Vm rfl (WL.nil (tn (WP.block ?_))))))))
  have rl2 := RL.nil (α := Cell) H encCell
  refine WP.weaken (fun _ s => s.nilrow 80 (encCell).size) ?_
  have rl3 := RL.nil (α := Cell) H encCell
  refine WP.weaken (fun _ s => s.nilrow 80 (encCell).size) ?_
  have rl4 := RL.nil (α := Cell) H encCell
  refine WP.weaken (fun _ s => s.nilrow 80 (encCell).size) ?_
  refine WP.loop (fun m1 g' S' => ∃ (i1 : Int) (l1 : (List Bool)) (ao3 : Option Addr) (cap3 : Nat) (xs2 : List Value) (l2 : (List Cell)) (ao4 : Option Addr) (cap4 : Nat) (xs3 : List Value) (l3 : (List Cell)) (ao5 : Option Addr) (cap5 : Nat) (xs4 : List Value) (l4 : (List Cell)) (ao6 : Option Addr) (cap6 : Nat) (xs5 : List Value), RL H encBool l1 xs2 ∧ RL H encCell l2 xs3 ∧ RL H encCell l3 xs4 ∧ RL H encCell l4 xs5 ∧ Sub [(1, (pB b1 0)), (3, (.slice (some ⟨b2, 0, none⟩) 3 3)), (4, (.slice ao3 l1.length cap3)), (20, (.slice ao1 p_s.steps.length cap1)), (21, (.int .i64 (p_s.steps.length : Int))), (22, (.int .i64 i1)), (1000000007, (.bool false))] g' ∧ (∀ w', S' w' → St w H [.row 80 (encCell).size l4.length (.slice ao6 l4.length cap6) xs5, .row 80 (encCell).size l3.length (.slice ao5 l3.length cap5) xs4, .row 80 (encCell).size l2.length (.slice ao4 l2.length cap4) xs3, .row 4 (encBool).size l1.length (.slice ao3 l1.length cap3) xs2, .blk b2 78 [(.slice ao4 l2.length cap4), (.slice ao5 l3.length cap5), (.slice ao6 l4.length cap6)], .blk b1 24 [(.int .i64 p_s.actuators), (.slice ao1 p_s.steps.length cap1)]] H w') ∧ diagram_cells3_loop1 p_s k1 m1 i1 l1 l2 l3 l4 = some r) ((Int.toNat ((p_s.steps.length : Int) - 0) + 1)) ⟨0, (List.replicate (Int.toNat p_s.actuators) false), (some ⟨b3, 0, none⟩), (Int.toNat p_s.actuators), xs1, ([] : List Cell), none, 0, [], ([] : List Cell), none, 0, [], ([] : List Cell), none, 0, [], rl1, rl2, rl3, rl4, (Sub.all rfl), fun w' s => s, hm⟩ ?_ ?_
  ·
   rintro g' S' ⟨_, _, _, _, _, _, _, _, _, _, _, _, _, _, _, _, _, _, _, _, _, _, _, hm⟩
   exact none_some hm
  rintro m1 g' S' ⟨i1, l1, ao3, cap3, xs2, l2, ao4, cap4, xs3, l3, ao5, cap5, xs4, l4, ao6, cap6, xs5, rl5, rl6, rl7, rl8, hsub1, hS1, hm⟩
  refine WP.sub hsub1 (WP.weaken hS1 ?_)
  rw [diagram_cells3_loop1] at hm
  refine WP.seq (WP.region (V rfl (ov_lss rfl rfl rfl) (WL.nil (tn (WP.seq ?_)))))
  refine WP.cond rfl (fun hc3 => ?_) (fun hc3 => ?_)
  ·
   replace hm := ite_t hc3 hm
   refine WP.skip (tn ?_)
   obtain ⟨k2, hk2, hm⟩ := joinK_some hm
   refine WP.seq_join (fun g' S' => ∃ (l17 : (List Bool)) (ao20 : Option Addr) (cap20 : Nat) (xs16 : List Value) (l18 : (List Cell)) (ao21 : Option Addr) (cap21 : Nat) (xs17 : List Value) (l19 : (List Cell)) (ao22 : Option Addr) (cap22 : Nat) (xs18 : List Value) (l20 : (List Cell)) (ao23 : Option Addr) (cap23 : Nat) (xs19 : List Value), RL H encBool l17 xs16 ∧ RL H encCell l18 xs17 ∧ RL H encCell l19 xs18 ∧ RL H encCell l20 xs19 ∧ Sub [(1, (pB b1 0)), (3, (.slice (some ⟨b2, 0, none⟩) 3 3)), (4, (.slice ao20 l17.length cap20)), (20, (.slice ao1 p_s.steps.length cap1)), (21, (.int .i64 (p_s.steps.length : Int))), (22, (.int .i64 i1)), (1000000007, (.bool false))] g' ∧ (∀ w', S' w' → St w H [.row 80 (encCell).size l20.length (.slice ao23 l20.length cap23) xs19, .row 80 (encCell).size l19.length (.slice ao22 l19.length cap22) xs18, .row 80 (encCell).size l18.length (.slice ao21 l18.length cap21) xs17, .row 4 (encBool).size l17.length (.slice ao20 l17.length cap20) xs16, .blk b2 78 [(.slice ao21 l18.length cap21), (.slice ao22 l19.length cap22), (.slice ao23 l20.length cap23)], .blk b1 24 [(.int .i64 p_s.actuators), (.slice ao1 p_s.steps.length cap1)]] H w') ∧ k2 l17 l18 l19 l20 = some r) ?_ ?_
   ·
    refine WP.block (WP.seq (WP.region ?_))
    obtain ⟨x1, e2, hm⟩ := bind_some hm
    obtain ⟨h4, h5, h6, cs1, h7, h8⟩ := h1.get e2 (by decide)
    obtain ⟨ao7, cap7, rfl, h3, hc4⟩ := h7
    refine V rfl (ov_indexAddr underlying22 sizeOf45 rfl rfl rfl h4 h5 h6) (V rfl (ov_load_elems (vs := [(.slice ao7 x1.strokes.length cap7), (.int .i64 x1.wait)]) isAgg45 sizeOf45 rfl rfl rfl h8 h6) ?_)
    refine ws rfl (os_alloc (cs := [(.slice none 0 0), (.int .i64 0)]) zeroValue45 rfl rfl (fun b4 => ?_))
    refine ws0 rfl (os_store (i := 0) (vs := [(.slice ao7 x1.strokes.length cap7), (.int .i64 x1.wait)]) (cs' := [(.slice ao7 x1.strokes.length cap7), (.int .i64 x1.wait)]) sizeOf45 rfl rfl rfl rfl rfl rfl rfl rfl rfl ?_)
    refine WL.nil (tn (WP.seq (WP.region (V rfl (ov_fieldAddr underlying24 rfl rfl rfl sizeOf3 rfl rfl) (Vl 6 isAgg3 rfl ?_)))))
    obtain ⟨u2, e3, hm⟩ := bind_some hm
    replace e3 := guardO_some e3
    refine ws rfl (os_makeSlice (En := encCell) (z := (.agg #[(.int .u8 0), (.int .u8 0)])) (y0 := (Cell.mk 0 0)) (bytes := 2) underlying78 (by kernel_rfl) rfl (by decide) rfl rfl rfl e3 (fun b5 xs6 rl9 => ?_))
    refine Va rfl (WL.nil (tn ?_))
    obtain ⟨k3, hk3, hm⟩ := joinK_some hm
    refine WP.seq_join (fun g' S' => ∃ (l6 : (List Cell)) (ao9 : Option Addr) (cap9 : Nat) (xs8 : List Value), RL H encCell l6 xs8 ∧ Sub [(1, (pB b1 0)), (3, (.slice (some ⟨b2, 0, none⟩) 3 3)), (4, (.slice ao3 l1.length cap3)), (6, (pB b4 0)), (7, (.slice ao9 l6.length cap9)), (20, (.slice ao1 p_s.steps.length cap1)), (21, (.int .i64 (p_s.steps.length : Int))), (22, (.int .i64 i1)), (1000000007, (.bool false))] g' ∧ (∀ w', S' w' → St w H [.row 80 (encCell).size l6.length (.slice ao9 l6.length cap9) xs8, .blk b4 45 [(.slice ao7 x1.strokes.length cap7), (.int .i64 x1.wait)], .row 80 (encCell).size l4.length (.slice ao6 l4.length cap6) xs5, .row 80 (encCell).size l3.length (.slice ao5 l3.length cap5) xs4, .row 80 (encCell).size l2.length (.slice ao4 l2.length cap4) xs3, .row 4 (encBool).size l1.length (.slice ao3 l1.length cap3) xs2, .blk b2 78 [(.slice ao4 l2.length cap4), (.slice ao5 l3.length cap5), (.slice ao6 l4.length cap6)], .blk b1 24 [(.int .i64 p_s.actuators), (.slice ao1 p_s.steps.length cap1)]] H w') ∧ k3 l6 = some r) ?_ ?_
    ·
     refine WP.seq (WP.region (Vm rfl (V rfl (ov_len_slice underlying49 rfl rfl) (Vm rfl (WL.nil (tn (WP.block ?_)))))))
     refine WP.loop (fun m2 g' S' => ∃ (i2 : Int) (l5 : (List Cell)) (ao8 : Option Addr) (cap8 : Nat) (xs7 : List Value), RL H encCell l5 xs7 ∧ Sub [(1, (pB b1 0)), (3, (.slice (some ⟨b2, 0, none⟩) 3 3)), (4, (.slice ao3 l1.length cap3)), (6, (pB b4 0)), (7, (.slice ao8 l5.length cap8)), (20, (.slice ao1 p_s.steps.length cap1)), (21, (.int .i64 (p_s.steps.length : Int))), (22, (.int .i64 i1)), (29, (.slice ao3 l1.length cap3)), (30, (.int .i64 (l1.length : Int))), (31, (.int .i64 i2)), (1000000007, (.bool false))] g' ∧ (∀ w', S' w' → St w H [.row 80 (encCell).size l5.length (.slice ao8 l5.length cap8) xs7, .blk b4 45 [(.slice ao7 x1.strokes.length cap7), (.int .i64 x1.wait)], .row 80 (encCell).size l4.length (.slice ao6 l4.length cap6) xs5, .row 80 (encCell).size l3.length (.slice ao5 l3.length cap5) xs4, .row 80 (encCell).size l2.length (.slice ao4 l2.length cap4) xs3, .row 4 (encBool).size l1.length (.slice ao3 l1.length cap3) xs2, .blk b2 78 [(.slice ao4 l2.length cap4), (.slice ao5 l3.length cap5), (.slice ao6 l4.length cap6)], .blk b1 24 [(.int .i64 p_s.actuators), (.slice ao1 p_s.steps.length cap1)]] H w') ∧ diagram_cells1_loop2 l1 k3 m2 i2 l5 = some r) ((Int.toNat ((l1.length : Int) - 0) + 1)) ⟨0, (List.replicate (Int.toNat p_s.actuators) (Cell.mk 0 0)), (some ⟨b5, 0, none⟩), (Int.toNat p_s.actuators), xs6, rl9, (Sub.all rfl), fun w' s => s, hm⟩ ?_ ?_
     ·
      rintro g' S' ⟨_, _, _, _, _, _, _, _, hm⟩
      exact none_some hm
     rintro m2 g' S' ⟨i2, l5, ao8, cap8, xs7, rl10, hsub2, hS2, hm⟩
     refine WP.sub hsub2 (WP.weaken hS2 ?_)
     rw [diagram_cells1_loop2] at hm
     refine WP.seq (WP.region (V rfl (ov_lss rfl rfl rfl) (WL.nil (tn (WP.seq ?_)))))
     refine WP.cond rfl (fun hc5 => ?_) (fun hc5 => ?_)
     ·
      replace hm := ite_t hc5 hm
      refine WP.skip (tn (WP.seq (WP.block (WP.seq (WP.region (Vm rfl ?_))))))
      obtain ⟨x2, e4, hm⟩ := bind_some hm
      obtain ⟨h9, h10, h11, cs2, h12, h13⟩ := RL.get rl5 e4
      obtain rfl : cs2 = [(.bool x2)] := h12
      refine V rfl (ov_indexAddr_own (i := 5) underlying49 sizeOf4 rfl rfl rfl rfl h9 h10) (V rfl (ov_load_own (i := 5) isAgg4 rfl rfl rfl (own_pos h9 h10) (elem_cell h13 (off := 0) rfl)) (Va rfl (Va rfl (WL.nil (tn ?_)))))
      refine WP.region_any (S₀ := St w H [.blk b4 45 [(.slice ao7 x1.strokes.length cap7), (.int .i64 x1.wait)], .row 80 (encCell).size l4.length (.slice ao6 l4.length cap6) xs5, .row 80 (encCell).size l3.length (.slice ao5 l3.length cap5) xs4, .row 80 (encCell).size l2.length (.slice ao4 l2.length cap4) xs3, .row 4 (encBool).size l1.length (.slice ao3 l1.length cap3) xs2, .blk b2 78 [(.slice ao4 l2.length cap4), (.slice ao5 l3.length cap5), (.slice ao6 l4.length cap6)], .blk b1 24 [(.int .i64 p_s.actuators), (.slice ao1 p_s.steps.length cap1)]] H) 13 rfl (by kernel_rfl) (fun w' s => (s.select [1, 2, 3, 4, 5, 6, 7] (by decide) rfl)) (fun _ s => s.drew) ?_
      refine TQ 0 (by kernel_rfl) rfl (ov_move rfl rfl) (TQ 1 (by kernel_rfl) rfl (ov_move rfl rfl) (TQ 2 (by kernel_rfl) rfl (ov_move rfl rfl) (TQ 6 (by kernel_rfl) rfl (ov_move rfl rfl) ?_)))
      refine AL.any (rs := [3]) (by kernel_rfl) (by decide) ?_
      refine ALs.cons (i := 3) rfl (Runs.free rfl) rfl rfl ?_ ?_
      ·
       obtain ⟨r1, e5, hm⟩ := bind_some hm
       refine OQ.step (oq_con (r := (.int .i64 r1)) call87 rfl rfl (fun w' s => ⟨_, (diagram_index_con x2  w' H s.hold hG r1 e5)⟩)) ?_
       refine ⟨fun w' s => (s.select [1, 2, 3, 4, 5, 6, 7] (by decide) rfl), ?_⟩
       obtain ⟨x3, e6, hm⟩ := bind_some hm
       obtain ⟨h14, h15, h16, cs3, h17, h18⟩ := hG.1.1.1.get e6 (by decide)
       obtain rfl : cs3 = [(.int .u8 x3)] := h17
       refine TQ 4 (by kernel_rfl) rfl (ov_indexAddr_globL rfl underlying84 sizeOf5 rfl rfl rfl h14 h15) (TQ 5 (by kernel_rfl) rfl (ov_load_elem (v := (.int .u8 x3)) isAgg5 rfl rfl h18) ?_)
       refine AL.any (rs := [7]) (by kernel_rfl) (by decide) ?_
       refine ALs.cons (i := 7) rfl (Runs.free rfl) rfl rfl ?_ ?_
       ·
        obtain ⟨r2, e7, hm⟩ := bind_some hm
        refine OQ.step (oq_con (r := (.int .i64 r2)) call87 rfl rfl (fun w' s => ⟨_, (diagram_index_con x2  w' H s.hold hG r2 e7)⟩)) ?_
        refine ⟨fun w' s => (s.select [1, 2, 3, 4, 5, 6, 7] (by decide) rfl), ?_⟩
        obtain ⟨x4, e8, hm⟩ := bind_some hm
        obtain ⟨h19, h20, h21, cs4, h22, h23⟩ := hG.1.1.1.get e8 (by decide)
        obtain rfl : cs4 = [(.int .u8 x4)] := h22
        refine TQ 8 (by kernel_rfl) rfl (ov_indexAddr_globL rfl underlying84 sizeOf5 rfl rfl rfl h19 h20) (TQ 9 (by kernel_rfl) rfl (ov_load_elem (v := (.int .u8 x4)) isAgg5 rfl rfl h23) (TQ 10 (by kernel_rfl) rfl (ov_build (r := (.agg #[(.int .u8 x3), (.int .u8 x4)])) rfl rfl (fun _ => by kernel_rfl)) ?_))
        refine AL.any (rs := [11]) (by kernel_rfl) (by decide) ?_
        refine ALs.cons (i := 11) rfl (Runs.free rfl) rfl rfl ?_ ?_
        ·
         obtain ⟨x5, e9, hm⟩ := bind_some hm
         obtain ⟨h24, h25, h26, cs5, h27, h28⟩ := RL.get rl10 e9
         obtain rfl : cs5 = [(.int .u8 x5.first), (.int .u8 x5.second)] := h27
         refine OQ.step (OV.quiet (ov_indexAddr_own (i := 0) underlying78 sizeOf80 rfl rfl rfl rfl h24 h25)) ?_
         refine ⟨fun w' s => (s.select [1, 2, 3, 4, 5, 6, 7] (by decide) rfl), ?_⟩
         refine AL.any (rs := [12]) (by kernel_rfl) (by decide) ?_
         refine ALs.cons0 (i := 12) rfl (Runs.free rfl) rfl ?_ ?_
         ·
          have rl11 := RL.set rl10 (y := (Cell.mk x3 x4)) (off := 0) (vs := [(.int .u8 x3), (.int .u8 x4)]) e9 h28 rfl (Nat.le_of_ble_eq_true rfl)
          have e10 := at?_set (y := (Cell.mk x3 x4)) e9
          refine os_store_own (i := 0) (vs := [(.int .u8 x3), (.int .u8 x4)]) sizeOf80 rfl rfl rfl rfl (own_pos h24 h25) rfl rfl (elem_le (off := 0) h26 (Nat.le_of_ble_eq_true rfl)) rfl ?_
          rw [show l5.length = (List.set l5 (Int.toNat i2) (Cell.mk x3 x4)).length from List.length_set.symm]
          obtain ⟨h29, h30, h31, cs6, h32, h33⟩ := rl11.get e10
          obtain rfl : cs6 = [(.int .u8 x3), (.int .u8 x4)] := h32
          refine ⟨fun w' s => (s.select [1, 2, 3, 4, 5, 6, 7] (by decide) rfl), ?_⟩
          refine AL.done (by kernel_rfl) ?_
          refine bn (tn (WP.region (V rfl (ov_add rfl rfl rfl) (Vm rfl (WL.nil (tn ?_))))))
          exact ⟨(IntKind.wrap .i64 (i2 + 1)), (List.set l5 (Int.toNat i2) (Cell.mk x3 x4)), ao8, cap8, (spl xs7 (Int.toNat i2 * encCell.size + 0) [(.int .u8 x3), (.int .u8 x4)]), rl11, (Sub.all rfl), fun w' s => s, hm⟩
         exact ALs.nil
        exact ALs.nil
       exact ALs.nil
      exact ALs.nil
     replace hm := ite_f hc5 hm
     refine WP.exit (then_exit (then_exit (block_here (tn ?_))))
     exact ⟨l5, ao8, cap8, xs7, rl10, (Sub.all rfl), fun w' s => s, hm⟩
    rintro g' S' ⟨l6, ao9, cap9, xs8, rl12, hsub3, hS3, hm⟩
    refine WP.sub hsub3 (WP.weaken hS3 ?_)
    replace hm := (congrFun hk3 l6).symm.trans hm
    obtain ⟨k4, hk4, hm⟩ := joinK_some hm
    refine WP.seq_join (fun g' S' => ∃ (l9 : (List Bool)) (ao12 : Option Addr) (cap12 : Nat) (xs11 : List Value) (l10 : (List Cell)) (ao13 : Option Addr) (cap13 : Nat) (xs12 : List Value), RL H encBool l9 xs11 ∧ RL H encCell l10 xs12 ∧ Sub [(1, (pB b1 0)), (3, (.slice (some ⟨b2, 0, none⟩) 3 3)), (4, (.slice ao12 l9.length cap12)), (7, (.slice ao13 l10.length cap13)), (20, (.slice ao1 p_s.steps.length cap1)), (21, (.int .i64 (p_s.steps.length : Int))), (22, (.int .i64 i1)), (1000000007, (.bool false))] g' ∧ (∀ w', S' w' → St w H [.row 80 (encCell).size l10.length (.slice ao13 l10.length cap13) xs12, .row 80 (encCell).size l4.length (.slice ao6 l4.length cap6) xs5, .row 80 (encCell).size l3.length (.slice ao5 l3.length cap5) xs4, .row 80 (encCell).size l2.length (.slice ao4 l2.length cap4) xs3, .row 4 (encBool).size l9.length (.slice ao12 l9.length cap12) xs11, .blk b2 78 [(.slice ao4 l2.length cap4), (.slice ao5 l3.length cap5), (.slice ao6 l4.length cap6)], .blk b1 24 [(.int .i64 p_s.actuators), (.slice ao1 p_s.steps.length cap1)]] H w') ∧ k4 l9 l10 = some r) ?_ ?_
    ·
     refine WP.seq (WP.region (V rfl (ov_fieldAddr underlying45 rfl rfl rfl sizeOf43 rfl rfl) (Vl 1 isAgg43 rfl (V rfl (ov_len_slice underlying43 rfl rfl) (Vm rfl (WL.nil (tn (WP.block ?_))))))))
     refine WP.loop (fun m3 g' S' => ∃ (i3 : Int) (l7 : (List Bool)) (ao10 : Option Addr) (cap10 : Nat) (xs9 : List Value) (l8 : (List Cell)) (ao11 : Option Addr) (cap11 : Nat) (xs10 : List Value), RL H encBool l7 xs9 ∧ RL H encCell l8 xs10 ∧ Sub [(1, (pB b1 0)), (3, (.slice (some ⟨b2, 0, none⟩) 3 3)), (4, (.slice ao10 l7.length cap10)), (7, (.slice ao11 l8.length cap11)), (20, (.slice ao1 p_s.steps.length cap1)), (21, (.int .i64 (p_s.steps.length : Int))), (22, (.int .i64 i1)), (50, (.slice ao7 x1.strokes.length cap7)), (51, (.int .i64 (x1.strokes.length : Int))), (52, (.int .i64 i3)), (1000000007, (.bool false))] g' ∧ (∀ w', S' w' → St w H [.row 80 (encCell).size l8.length (.slice ao11 l8.length cap11) xs10, .row 80 (encCell).size l4.length (.slice ao6 l4.length cap6) xs5, .row 80 (encCell).size l3.length (.slice ao5 l3.length cap5) xs4, .row 80 (encCell).size l2.length (.slice ao4 l2.length cap4) xs3, .row 4 (encBool).size l7.length (.slice ao10 l7.length cap10) xs9, .blk b2 78 [(.slice ao4 l2.length cap4), (.slice ao5 l3.length cap5), (.slice ao6 l4.length cap6)], .blk b1 24 [(.int .i64 p_s.actuators), (.slice ao1 p_s.steps.length cap1)]] H w') ∧ diagram_cells1_loop3 x1 k4 m3 i3 l7 l8 = some r) ((Int.toNat ((x1.strokes.length : Int) - 0) + 1)) ⟨0, l1, ao3, cap3, xs2, l6, ao9, cap9, xs8, rl5, rl12, (Sub.all rfl), fun w' s => (s.select [0, 2, 3, 4, 5, 6, 7] (by decide) rfl), hm⟩ ?_ ?_
     ·
      rintro g' S' ⟨_, _, _, _, _, _, _, _, _, _, _, _, _, hm⟩
      exact none_some hm
     rintro m3 g' S' ⟨i3, l7, ao10, cap10, xs9, l8, ao11, cap11, xs10, rl13, rl14, hsub4, hS4, hm⟩
     refine WP.sub hsub4 (WP.weaken hS4 ?_)
     rw [diagram_cells1_loop3] at hm
     refine WP.seq (WP.region (V rfl (ov_lss rfl rfl rfl) (WL.nil (tn (WP.seq ?_)))))
     refine WP.cond rfl (fun hc6 => ?_) (fun hc6 => ?_)
     ·
      replace hm := ite_t hc6 hm
      refine WP.skip (tn (WP.seq (WP.block (WP.seq (WP.region ?_)))))
      obtain ⟨x6, e11, hm⟩ := bind_some hm
      obtain ⟨h34, h35, h36, cs7, h37, h38⟩ := h3.get e11 (by decide)
      obtain rfl : cs7 = [(.int .i64 x6.actuator), (.bool x6.out)] := h37
      refine V rfl (ov_indexAddr underlying43 sizeOf48 rfl rfl rfl h34 h35 h36) (V rfl (ov_load_elems (vs := [(.int .i64 x6.actuator), (.bool x6.out)]) isAgg48 sizeOf48 rfl rfl rfl h38 h36) ?_)
      refine ws rfl (os_alloc (cs := [(.int .i64 0), (.bool false)]) zeroValue48 rfl rfl (fun b6 => ?_))
      refine ws0 rfl (os_store (i := 0) (vs := [(.int .i64 x6.actuator), (.bool x6.out)]) (cs' := [(.int .i64 x6.actuator), (.bool x6.out)]) sizeOf48 rfl rfl rfl rfl rfl rfl rfl rfl rfl ?_)
      refine WL.nil (tn (WP.seq (WP.region (Vm rfl (V rfl (ov_fieldAddr underlying48 rfl rfl rfl sizeOf3 rfl rfl) (Vl 0 isAgg3 rfl (V rfl (ov_fieldAddr underlying48 rfl rfl rfl sizeOf4 rfl rfl) (Vl 0 isAgg4 rfl ?_))))))))
      obtain ⟨x7, e12, hm⟩ := bind_some hm
      obtain ⟨h39, h40, h41, cs8, h42, h43⟩ := RL.get rl13 e12
      obtain rfl : cs8 = [(.bool x7)] := h42
      refine V rfl (ov_indexAddr_own (i := 5) underlying49 sizeOf4 rfl rfl rfl rfl h39 h40) ?_
      have rl15 := RL.set rl13 (y := x6.out) (off := 0) (vs := [(.bool x6.out)]) e12 h43 rfl (Nat.le_of_ble_eq_true rfl)
      have e13 := at?_set (y := x6.out) e12
      refine ws0 rfl (os_store_own (i := 5) (vs := [(.bool x6.out)]) sizeOf4 rfl rfl rfl rfl (own_pos h39 h40) rfl rfl (elem_le (off := 0) h41 (Nat.le_of_ble_eq_true rfl)) rfl ?_)
      rw [show l7.length = (List.set l7 (Int.toNat x6.actuator) x6.out).length from List.length_set.symm]
      obtain ⟨h44, h45, h46, cs9, h47, h48⟩ := rl15.get e13
      obtain rfl : cs9 = [(.bool x6.out)] := h47
      refine WL.nil (tn ?_)
      refine WP.region_any (S₀ := St w H [.blk b6 48 [(.int .i64 x6.actuator), (.bool x6.out)], .row 80 (encCell).size l4.length (.slice ao6 l4.length cap6) xs5, .row 80 (encCell).size l3.length (.slice ao5 l3.length cap5) xs4, .row 80 (encCell).size l2.length (.slice ao4 l2.length cap4) xs3, .row 4 (encBool).size (List.set l7 (Int.toNat x6.actuator) x6.out).length (.slice ao10 (List.set l7 (Int.toNat x6.actuator) x6.out).length cap10) (spl xs9 (Int.toNat x6.actuator * encBool.size + 0) [(.bool x6.out)]), .blk b2 78 [(.slice ao4 l2.length cap4), (.slice ao5 l3.length cap5), (.slice ao6 l4.length cap6)], .blk b1 24 [(.int .i64 p_s.actuators), (.slice ao1 p_s.steps.length cap1)]] H) 16 rfl (by kernel_rfl) (fun w' s => (s.select [0, 2, 3, 4, 5, 6, 7] (by decide) rfl)) (fun _ s => s.drew) ?_
      refine TQ 0 (by kernel_rfl) rfl (ov_move rfl rfl) (TQ 1 (by kernel_rfl) rfl (ov_fieldAddr underlying48 rfl rfl rfl sizeOf3 rfl rfl) (TQ 2 (by kernel_rfl) rfl (ov_load_box (i := 0) isAgg3 rfl rfl rfl rfl) (TQ 3 (by kernel_rfl) rfl (ov_fieldAddr underlying48 rfl rfl rfl sizeOf4 rfl rfl) (TQ 4 (by kernel_rfl) rfl (ov_load_box (i := 0) isAgg4 rfl rfl rfl rfl) (TQ 8 (by kernel_rfl) rfl (ov_fieldAddr underlying48 rfl rfl rfl sizeOf4 rfl rfl) (TQ 9 (by kernel_rfl) rfl (ov_load_box (i := 0) isAgg4 rfl rfl rfl rfl) ?_))))))
      refine AL.any (rs := [5]) (by kernel_rfl) (by decide) ?_
      refine ALs.cons (i := 5) rfl (Runs.free rfl) rfl rfl ?_ ?_
      ·
       obtain ⟨r3, e14, hm⟩ := bind_some hm
       refine OQ.step (oq_con (r := (.int .i64 r3)) call87 rfl rfl (fun w' s => ⟨_, (diagram_index_con x6.out  w' H s.hold hG r3 e14)⟩)) ?_
       refine ⟨fun w' s => (s.select [0, 2, 3, 4, 5, 6, 7] (by decide) rfl), ?_⟩
       obtain ⟨x8, e15, hm⟩ := bind_some hm
       obtain ⟨h49, h50, h51, cs10, h52, h53⟩ := hG.1.1.2.get e15 (by decide)
       obtain rfl : cs10 = [(.int .u8 x8)] := h52
       refine TQ 6 (by kernel_rfl) rfl (ov_indexAddr_globL rfl underlying84 sizeOf5 rfl rfl rfl h49 h50) (TQ 7 (by kernel_rfl) rfl (ov_load_elem (v := (.int .u8 x8)) isAgg5 rfl rfl h53) ?_)
       refine AL.any (rs := [10]) (by kernel_rfl) (by decide) ?_
       refine ALs.cons (i := 10) rfl (Runs.free rfl) rfl rfl ?_ ?_
       ·
        obtain ⟨r4, e16, hm⟩ := bind_some hm
        refine OQ.step (oq_con (r := (.int .i64 r4)) call87 rfl rfl (fun w' s => ⟨_, (diagram_index_con x6.out  w' H s.hold hG r4 e16)⟩)) ?_
        refine ⟨fun w' s => (s.select [0, 2, 3, 4, 5, 6, 7] (by decide) rfl), ?_⟩
        obtain ⟨x9, e17, hm⟩ := bind_some hm
        obtain ⟨h54, h55, h56, cs11, h57, h58⟩ := hG.1.1.1.get e17 (by decide)
        obtain rfl : cs11 = [(.int .u8 x9)] := h57
        refine TQ 11 (by kernel_rfl) rfl (ov_indexAddr_globL rfl underlying84 sizeOf5 rfl rfl rfl h54 h55) (TQ 12 (by kernel_rfl) rfl (ov_load_elem (v := (.int .u8 x9)) isAgg5 rfl rfl h58) (TQ 13 (by kernel_rfl) rfl (ov_build (r := (.agg #[(.int .u8 x8), (.int .u8 x9)])) rfl rfl (fun _ => by kernel_rfl)) ?_))
        refine AL.any (rs := [14]) (by kernel_rfl) (by decide) ?_
        refine ALs.cons (i := 14) rfl (Runs.free rfl) rfl rfl ?_ ?_
        ·
         obtain ⟨x10, e18, hm⟩ := bind_some hm
         obtain ⟨h59, h60, h61, cs12, h62, h63⟩ := RL.get rl14 e18
         obtain rfl : cs12 = [(.int .u8 x10.first), (.int .u8 x10.second)] := h62
         refine OQ.step (OV.quiet (ov_indexAddr_own (i := 1) underlying78 sizeOf80 rfl rfl rfl rfl h59 h60)) ?_
         refine ⟨fun w' s => (s.select [0, 2, 3, 4, 5, 6, 7] (by decide) rfl), ?_⟩
         refine AL.any (rs := [15]) (by kernel_rfl) (by decide) ?_
         refine ALs.cons0 (i := 15) rfl (Runs.free rfl) rfl ?_ ?_
         ·
          have rl16 := RL.set rl14 (y := (Cell.mk x8 x9)) (off := 0) (vs := [(.int .u8 x8), (.int .u8 x9)]) e18 h63 rfl (Nat.le_of_ble_eq_true rfl)
          have e19 := at?_set (y := (Cell.mk x8 x9)) e18
          refine os_store_own (i := 1) (vs := [(.int .u8 x8), (.int .u8 x9)]) sizeOf80 rfl rfl rfl rfl (own_pos h59 h60) rfl rfl (elem_le (off := 0) h61 (Nat.le_of_ble_eq_true rfl)) rfl ?_
          rw [show l8.length = (List.set l8 (Int.toNat x6.actuator) (Cell.mk x8 x9)).length from List.length_set.symm]
          obtain ⟨h64, h65, h66, cs13, h67, h68⟩ := rl16.get e19
          obtain rfl : cs13 = [(.int .u8 x8), (.int .u8 x9)] := h67
          refine ⟨fun w' s => (s.select [0, 2, 3, 4, 5, 6, 7] (by decide) rfl), ?_⟩
          refine AL.done (by kernel_rfl) ?_
          refine bn (tn (WP.region (V rfl (ov_add rfl rfl rfl) (Vm rfl (WL.nil (tn ?_))))))
          exact ⟨(IntKind.wrap .i64 (i3 + 1)), (List.set l7 (Int.toNat x6.actuator) x6.out), ao10, cap10, (spl xs9 (Int.toNat x6.actuator * encBool.size + 0) [(.bool x6.out)]), (List.set l8 (Int.toNat x6.actuator) (Cell.mk x8 x9)), ao11, cap11, (spl xs10 (Int.toNat x6.actuator * encCell.size + 0) [(.int .u8 x8), (.int .u8 x9)]), rl15, rl16, (Sub.all rfl), fun w' s => (s.select [1, 2, 3, 4, 5, 6, 7] (by decide) rfl), hm⟩
         exact ALs.nil
        exact ALs.nil
       exact ALs.nil
      exact ALs.nil
     replace hm := ite_f hc6 hm
     refine WP.exit (then_exit (then_exit (block_here (tn ?_))))
     exact ⟨l7, ao10, cap10, xs9, l8, ao11, cap11, xs10, rl13, rl14, (Sub.all rfl), fun w' s => s, hm⟩
    rintro g' S' ⟨l9, ao12, cap12, xs11, l10, ao13, cap13, xs12, rl17, rl18, hsub5, hS5, hm⟩
    refine WP.sub hsub5 (WP.weaken hS5 ?_)
    replace hm := (congrFun (congrFun hk4 l9) l10).symm.trans hm
    refine WP.seq (WP.region (Vm rfl (V rfl (ov_len_slice underlying76 rfl rfl) (Vm rfl (WL.nil (tn (WP.block ?_)))))))
    refine WP.loop (fun m4 g' S' => ∃ (i4 : Int) (l11 : (List Cell)) (ao14 : Option Addr) (cap14 : Nat) (xs13 : List Value) (l12 : (List Cell)) (ao15 : Option Addr) (cap15 : Nat) (xs14 : List Value) (l13 : (List Cell)) (ao16 : Option Addr) (cap16 : Nat) (xs15 : List Value), RL H encCell l11 xs13 ∧ RL H encCell l12 xs14 ∧ RL H encCell l13 xs15 ∧ Sub [(1, (pB b1 0)), (3, (.slice (some ⟨b2, 0, none⟩) 3 3)), (4, (.slice ao12 l9.length cap12)), (7, (.slice ao13 l10.length cap13)), (20, (.slice ao1 p_s.steps.length cap1)), (21, (.int .i64 (p_s.steps.length : Int))), (22, (.int .i64 i1)), (79, (.int .i64 3)), (80, (.int .i64 i4)), (1000000007, (.bool false))] g' ∧ (∀ w', S' w' → St w H [.row 80 (encCell).size l10.length (.slice ao13 l10.length cap13) xs12, .row 80 (encCell).size l13.length (.slice ao16 l13.length cap16) xs15, .row 80 (encCell).size l12.length (.slice ao15 l12.length cap15) xs14, .row 80 (encCell).size l11.length (.slice ao14 l11.length cap14) xs13, .row 4 (encBool).size l9.length (.slice ao12 l9.length cap12) xs11, .blk b2 78 [(.slice ao14 l11.length cap14), (.slice ao15 l12.length cap15), (.slice ao16 l13.length cap16)], .blk b1 24 [(.int .i64 p_s.actuators), (.slice ao1 p_s.steps.length cap1)]] H w') ∧ diagram_cells3_loop4 k2 l10 l9 m4 i4 l11 l12 l13 = some r) ((Int.toNat (3 - 0) + 1)) ⟨0, l2, ao4, cap4, xs3, l3, ao5, cap5, xs4, l4, ao6, cap6, xs5, rl6, rl7, rl8, (Sub.all rfl), fun w' s => s, hm⟩ ?_ ?_
    ·
     rintro g' S' ⟨_, _, _, _, _, _, _, _, _, _, _, _, _, _, _, _, _, _, hm⟩
     exact none_some hm
    rintro m4 g' S' ⟨i4, l11, ao14, cap14, xs13, l12, ao15, cap15, xs14, l13, ao16, cap16, xs15, rl19, rl20, rl21, hsub6, hS6, hm⟩
    refine WP.sub hsub6 (WP.weaken hS6 ?_)
    rw [diagram_cells3_loop4] at hm
    refine WP.seq (WP.region (V rfl (ov_lss rfl rfl rfl) (WL.nil (tn (WP.seq ?_)))))
    refine WP.cond rfl (fun hc7 => ?_) (fun hc7 => ?_)
    ·
     replace hm := ite_t hc7 hm
     refine WP.skip (tn (WP.seq (WP.block (WP.seq (WP.region (Vm rfl (Va rfl (WL.nil (tn ?_)))))))))
     refine WP.region_any (S₀ := St w H [.row 80 (encCell).size l10.length (.slice ao13 l10.length cap13) xs12, .row 4 (encBool).size l9.length (.slice ao12 l9.length cap12) xs11, .blk b1 24 [(.int .i64 p_s.actuators), (.slice ao1 p_s.steps.length cap1)]] H) 14 rfl (by kernel_rfl) (fun w' s => (s.select [0, 4, 6] (by decide) rfl)) (fun _ s => s.drew) ?_
     refine TQ 0 (by kernel_rfl) rfl (ov_move rfl rfl) (TQ 1 (by kernel_rfl) rfl (ov_move rfl rfl) (TQ 2 (by kernel_rfl) rfl (ov_move rfl rfl) (TQ 3 (by kernel_rfl) rfl (ov_move rfl rfl) ?_)))
     rcases Bool.eq_false_or_eq_true (i4 == 0) with hc8 | hc8
     ·
      replace hm := ite_t hc8 hm
      refine TQ 4 (by kernel_rfl) rfl (ov_indexAddr_bsl (j := 0) underlying76 sizeOf78 rfl rfl rfl (eq_of_beq hc8) rfl) (TQ 6 (by kernel_rfl) rfl (ov_move rfl rfl) (TQ 7 (by kernel_rfl) rfl (ov_move rfl rfl) ?_))
      obtain ⟨x11, e20, hm⟩ := bind_some hm
      obtain ⟨h69, h70, h71, cs14, h72, h73⟩ := RL.get rl18 e20
      obtain rfl : cs14 = [(.int .u8 x11.first), (.int .u8 x11.second)] := h72
      refine TQ 8 (by kernel_rfl) rfl (ov_indexAddr_own (i := 0) underlying78 sizeOf80 rfl rfl rfl rfl h69 h70) (TQ 9 (by kernel_rfl) rfl (ov_load_owns (i := 0) (vs := [(.int .u8 x11.first), (.int .u8 x11.second)]) isAgg80 sizeOf80 rfl rfl rfl (own_pos h69 h70) rfl (fun j u hu => elem_cell h73 hu)) ?_)
      refine AL.any (rs := [5, 10]) (by kernel_rfl) (by decide) ?_
      refine ALs.cons (i := 5) rfl (Runs.free rfl) rfl rfl ?_ ?_
      ·
       refine OQ.step (OV.quiet (ov_load_box (i := 5) isAgg78 rfl rfl rfl rfl)) ?_
       refine ⟨fun w' s => (s.select [0, 4, 6] (by decide) rfl), ?_⟩
       refine AL.any (rs := [10]) (by kernel_rfl) (by decide) ?_
       refine ALs.cons (i := 10) rfl (Runs.free rfl) rfl rfl ?_ ?_
       ·
        have rl22 : RL H encCell ([x11] : List Cell) [(.int .u8 x11.first), (.int .u8 x11.second)] := RL.cons (cs := [(.int .u8 x11.first), (.int .u8 x11.second)]) (xs := []) rfl (RL.nil _ _)
        refine os_buildSlice (cs := [(.int .u8 x11.first), (.int .u8 x11.second)]) (E := 80) (sz := 2) rfl rfl (fun _ => by kernel_rfl) rfl (by decide) (fun b7 => ?_)
        refine ⟨fun w' s => (s.select [1, 5, 7] (by decide) rfl), ?_⟩
        refine AL.any (rs := [11]) (by kernel_rfl) (by decide) ?_
        refine ALs.cons (i := 11) rfl (Runs.free rfl) rfl rfl ?_ ?_
        ·
         obtain ⟨l14, e21, hm⟩ := bind_some hm
         refine os_app (i := 4) (j := 0) (En := encCell) (xs := xs13) (ys := [(.int .u8 x11.first), (.int .u8 x11.second)]) underlying78 (by kernel_rfl : (prog.info? 80).map (fun i => (i.zero, i.size, i.bytes)) = some (some (.agg #[(.int .u8 0), (.int .u8 0)]), (encCell).size, 2)) rfl (by decide) rfl rfl rfl rfl rfl rfl rl19 rl22 e21 (fun ao17 cap17 rl23 => ?_)
         refine ⟨fun w' s => (s.select [1, 5, 7] (by decide) rfl), ?_⟩
         refine TQ 12 (by kernel_rfl) rfl (ov_indexAddr_bsl (j := 0) underlying76 sizeOf78 rfl rfl rfl (eq_of_beq hc8) rfl) ?_
         refine AL.any (rs := [13]) (by kernel_rfl) (by decide) ?_
         refine ALs.cons0 (i := 13) rfl (Runs.free rfl) rfl ?_ ?_
         ·
          refine os_store (i := 6) (vs := [(.slice ao17 (l11 ++ ([x11] : List Cell)).length cap17)]) (cs' := [(.slice ao17 (l11 ++ ([x11] : List Cell)).length cap17), (.slice ao15 l12.length cap15), (.slice ao16 l13.length cap16)]) sizeOf78 rfl rfl rfl rfl rfl rfl rfl rfl rfl ?_
          refine ⟨fun w' s => (s.select [1, 5, 7] (by decide) rfl), ?_⟩
          refine AL.done (by kernel_rfl) ?_
          refine bn (tn (WP.region (V rfl (ov_add rfl rfl rfl) (Vm rfl (WL.nil (tn ?_))))))
          exact ⟨(IntKind.wrap .i64 (i4 + 1)), (l11 ++ ([x11] : List Cell)), ao17, cap17, (xs13 ++ [(.int .u8 x11.first), (.int .u8 x11.second)]), l12, ao15, cap15, xs14, l13, ao16, cap16, xs15, rl23, rl20, rl21, (Sub.all rfl), fun w' s => (s.select [1, 2, 3, 4, 5, 6, 7] (by decide) rfl), hm⟩
         exact ALs.nil
        exact ALs.nil
       exact ALs.nil
      refine ALs.cons (i := 10) rfl (Runs.free rfl) rfl rfl ?_ ?_
      ·
       have rl22 : RL H encCell ([x11] : List Cell) [(.int .u8 x11.first), (.int .u8 x11.second)] := RL.cons (cs := [(.int .u8 x11.first), (.int .u8 x11.second)]) (xs := []) rfl (RL.nil _ _)
       refine os_buildSlice (cs := [(.int .u8 x11.first), (.int .u8 x11.second)]) (E := 80) (sz := 2) rfl rfl (fun _ => by kernel_rfl) rfl (by decide) (fun b7 => ?_)
       refine ⟨fun w' s => (s.select [1, 5, 7] (by decide) rfl), ?_⟩
       refine AL.any (rs := [5]) (by kernel_rfl) (by decide) ?_
       refine ALs.cons (i := 5) rfl (Runs.free rfl) rfl rfl ?_ ?_
       ·
        refine OQ.step (OV.quiet (ov_load_box (i := 6) isAgg78 rfl rfl rfl rfl)) ?_
        refine ⟨fun w' s => (s.select [1, 5, 7] (by decide) rfl), ?_⟩
        refine AL.any (rs := [11]) (by kernel_rfl) (by decide) ?_
        refine ALs.cons (i := 11) rfl (Runs.free rfl) rfl rfl ?_ ?_
        ·
         obtain ⟨l14, e21, hm⟩ := bind_some hm
         refine os_app (i := 4) (j := 0) (En := encCell) (xs := xs13) (ys := [(.int .u8 x11.first), (.int .u8 x11.second)]) underlying78 (by kernel_rfl : (prog.info? 80).map (fun i => (i.zero, i.size, i.bytes)) = some (some (.agg #[(.int .u8 0), (.int .u8 0)]), (encCell).size, 2)) rfl (by decide) rfl rfl rfl rfl rfl rfl rl19 rl22 e21 (fun ao17 cap17 rl23 => ?_)
         refine ⟨fun w' s => (s.select [1, 5, 7] (by decide) rfl), ?_⟩
         refine TQ 12 (by kernel_rfl) rfl (ov_indexAddr_bsl (j := 0) underlying76 sizeOf78 rfl rfl rfl (eq_of_beq hc8) rfl) ?_
         refine AL.any (rs := [13]) (by kernel_rfl) (by decide) ?_
         refine ALs.cons0 (i := 13) rfl (Runs.free rfl) rfl ?_ ?_
         ·
          refine os_store (i := 6) (vs := [(.slice ao17 (l11 ++ ([x11] : List Cell)).length cap17)]) (cs' := [(.slice ao17 (l11 ++ ([x11] : List Cell)).length cap17), (.slice ao15 l12.length cap15), (.slice ao16 l13.length cap16)]) sizeOf78 rfl rfl rfl rfl rfl rfl rfl rfl rfl ?_
          refine ⟨fun w' s => (s.select [1, 5, 7] (by decide) rfl), ?_⟩
          refine AL.done (by kernel_rfl) ?_
          refine bn (tn (WP.region (V rfl (ov_add rfl rfl rfl) (Vm rfl (WL.nil (tn ?_))))))
          exact ⟨(IntKind.wrap .i64 (i4 + 1)), (l11 ++ ([x11] : List Cell)), ao17, cap17, (xs13 ++ [(.int .u8 x11.first), (.int .u8 x11.second)]), l12, ao15, cap15, xs14, l13, ao16, cap16, xs15, rl23, rl20, rl21, (Sub.all rfl), fun w' s => (s.select [1, 2, 3, 4, 5, 6, 7] (by decide) rfl), hm⟩
         exact ALs.nil
        exact ALs.nil
       exact ALs.nil
      exact ALs.nil
     replace hm := ite_f hc8 hm
     rcases Bool.eq_false_or_eq_true (i4 == 1) with hc9 | hc9
     ·
      replace hm := ite_t hc9 hm
      refine TQ 4 (by kernel_rfl) rfl (ov_indexAddr_bsl (j := 1) underlying76 sizeOf78 rfl rfl rfl (eq_of_beq hc9) rfl) (TQ 6 (by kernel_rfl) rfl (ov_move rfl rfl) (TQ 7 (by kernel_rfl) rfl (ov_move rfl rfl) ?_))
      obtain ⟨x12, e22, hm⟩ := bind_some hm
      obtain ⟨h74, h75, h76, cs15, h77, h78⟩ := RL.get rl18 e22
      obtain rfl : cs15 = [(.int .u8 x12.first), (.int .u8 x12.second)] := h77
      refine TQ 8 (by kernel_rfl) rfl (ov_indexAddr_own (i := 0) underlying78 sizeOf80 rfl rfl rfl rfl h74 h75) (TQ 9 (by kernel_rfl) rfl (ov_load_owns (i := 0) (vs := [(.int .u8 x12.first), (.int .u8 x12.second)]) isAgg80 sizeOf80 rfl rfl rfl (own_pos h74 h75) rfl (fun j u hu => elem_cell h78 hu)) ?_)
      refine AL.any (rs := [5, 10]) (by kernel_rfl) (by decide) ?_
      refine ALs.cons (i := 5) rfl (Runs.free rfl) rfl rfl ?_ ?_
      ·
       refine OQ.step (OV.quiet (ov_load_box (i := 5) isAgg78 rfl rfl rfl rfl)) ?_
       refine ⟨fun w' s => (s.select [0, 4, 6] (by decide) rfl), ?_⟩
       refine AL.any (rs := [10]) (by kernel_rfl) (by decide) ?_
       refine ALs.cons (i := 10) rfl (Runs.free rfl) rfl rfl ?_ ?_
       ·
        have rl24 : RL H encCell ([x12] : List Cell) [(.int .u8 x12.first), (.int .u8 x12.second)] := RL.cons (cs := [(.int .u8 x12.first), (.int .u8 x12.second)]) (xs := []) rfl (RL.nil _ _)
        refine os_buildSlice (cs := [(.int .u8 x12.first), (.int .u8 x12.second)]) (E := 80) (sz := 2) rfl rfl (fun _ => by kernel_rfl) rfl (by decide) (fun b8 => ?_)
        refine ⟨fun w' s => (s.select [1, 5, 7] (by decide) rfl), ?_⟩
        refine AL.any (rs := [11]) (by kernel_rfl) (by decide) ?_
        refine ALs.cons (i := 11) rfl (Runs.free rfl) rfl rfl ?_ ?_
        ·
         obtain ⟨l15, e23, hm⟩ := bind_some hm
         refine os_app (i := 3) (j := 0) (En := encCell) (xs := xs14) (ys := [(.int .u8 x12.first), (.int .u8 x12.second)]) underlying78 (by kernel_rfl : (prog.info? 80).map (fun i => (i.zero, i.size, i.bytes)) = some (some (.agg #[(.int .u8 0), (.int .u8 0)]), (encCell).size, 2)) rfl (by decide) rfl rfl rfl rfl rfl rfl rl20 rl24 e23 (fun ao18 cap18 rl25 => ?_)
         refine ⟨fun w' s => (s.select [1, 5, 7] (by decide) rfl), ?_⟩
         refine TQ 12 (by kernel_rfl) rfl (ov_indexAddr_bsl (j := 1) underlying76 sizeOf78 rfl rfl rfl (eq_of_beq hc9) rfl) ?_
         refine AL.any (rs := [13]) (by kernel_rfl) (by decide) ?_
         refine ALs.cons0 (i := 13) rfl (Runs.free rfl) rfl ?_ ?_
         ·
          refine os_store (i := 6) (vs := [(.slice ao18 (l12 ++ ([x12] : List Cell)).length cap18)]) (cs' := [(.slice ao14 l11.length cap14), (.slice ao18 (l12 ++ ([x12] : List Cell)).length cap18), (.slice ao16 l13.length cap16)]) sizeOf78 rfl rfl rfl rfl rfl rfl rfl rfl rfl ?_
          refine ⟨fun w' s => (s.select [1, 5, 7] (by decide) rfl), ?_⟩
          refine AL.done (by kernel_rfl) ?_
          refine bn (tn (WP.region (V rfl (ov_add rfl rfl rfl) (Vm rfl (WL.nil (tn ?_))))))
          exact ⟨(IntKind.wrap .i64 (i4 + 1)), l11, ao14, cap14, xs13, (l12 ++ ([x12] : List Cell)), ao18, cap18, (xs14 ++ [(.int .u8 x12.first), (.int .u8 x12.second)]), l13, ao16, cap16, xs15, rl19, rl25, rl21, (Sub.all rfl), fun w' s => (s.select [1, 2, 3, 4, 5, 6, 7] (by decide) rfl), hm⟩
         exact ALs.nil
        exact ALs.nil
       exact ALs.nil
      refine ALs.cons (i := 10) rfl (Runs.free rfl) rfl rfl ?_ ?_
      ·
       have rl24 : RL H encCell ([x12] : List Cell) [(.int .u8 x12.first), (.int .u8 x12.second)] := RL.cons (cs := [(.int .u8 x12.first), (.int .u8 x12.second)]) (xs := []) rfl (RL.nil _ _)
       refine os_buildSlice (cs := [(.int .u8 x12.first), (.int .u8 x12.second)]) (E := 80) (sz := 2) rfl rfl (fun _ => by kernel_rfl) rfl (by decide) (fun b8 => ?_)
       refine ⟨fun w' s => (s.select [1, 5, 7] (by decide) rfl), ?_⟩
       refine AL.any (rs := [5]) (by kernel_rfl) (by decide) ?_
       refine ALs.cons (i := 5) rfl (Runs.free rfl) rfl rfl ?_ ?_
       ·
        refine OQ.step (OV.quiet (ov_load_box (i := 6) isAgg78 rfl rfl rfl rfl)) ?_
        refine ⟨fun w' s => (s.select [1, 5, 7] (by decide) rfl), ?_⟩
        refine AL.any (rs := [11]) (by kernel_rfl) (by decide) ?_
        refine ALs.cons (i := 11) rfl (Runs.free rfl) rfl rfl ?_ ?_
        ·
         obtain ⟨l15, e23, hm⟩ := bind_some hm
         refine os_app (i := 3) (j := 0) (En := encCell) (xs := xs14) (ys := [(.int .u8 x12.first), (.int .u8 x12.second)]) underlying78 (by kernel_rfl : (prog.info? 80).map (fun i => (i.zero, i.size, i.bytes)) = some (some (.agg #[(.int .u8 0), (.int .u8 0)]), (encCell).size, 2)) rfl (by decide) rfl rfl rfl rfl rfl rfl rl20 rl24 e23 (fun ao18 cap18 rl25 => ?_)
         refine ⟨fun w' s => (s.select [1, 5, 7] (by decide) rfl), ?_⟩
         refine TQ 12 (by kernel_rfl) rfl (ov_indexAddr_bsl (j := 1) underlying76 sizeOf78 rfl rfl rfl (eq_of_beq hc9) rfl) ?_
         refine AL.any (rs := [13]) (by kernel_rfl) (by decide) ?_
         refine ALs.cons0 (i := 13) rfl (Runs.free rfl) rfl ?_ ?_
         ·
          refine os_store (i := 6) (vs := [(.slice ao18 (l12 ++ ([x12] : List Cell)).length cap18)]) (cs' := [(.slice ao14 l11.length cap14), (.slice ao18 (l12 ++ ([x12] : List Cell)).length cap18), (.slice ao16 l13.length cap16)]) sizeOf78 rfl rfl rfl rfl rfl rfl rfl rfl rfl ?_
          refine ⟨fun w' s => (s.select [1, 5, 7] (by decide) rfl), ?_⟩
          refine AL.done (by kernel_rfl) ?_
          refine bn (tn (WP.region (V rfl (ov_add rfl rfl rfl) (Vm rfl (WL.nil (tn ?_))))))
          exact ⟨(IntKind.wrap .i64 (i4 + 1)), l11, ao14, cap14, xs13, (l12 ++ ([x12] : List Cell)), ao18, cap18, (xs14 ++ [(.int .u8 x12.first), (.int .u8 x12.second)]), l13, ao16, cap16, xs15, rl19, rl25, rl21, (Sub.all rfl), fun w' s => (s.select [1, 2, 3, 4, 5, 6, 7] (by decide) rfl), hm⟩
         exact ALs.nil
        exact ALs.nil
       exact ALs.nil
      exact ALs.nil
     replace hm := ite_f hc9 hm
     rcases Bool.eq_false_or_eq_true (i4 == 2) with hc10 | hc10
     ·
      replace hm := ite_t hc10 hm
      refine TQ 4 (by kernel_rfl) rfl (ov_indexAddr_bsl (j := 2) underlying76 sizeOf78 rfl rfl rfl (eq_of_beq hc10) rfl) (TQ 6 (by kernel_rfl) rfl (ov_move rfl rfl) (TQ 7 (by kernel_rfl) rfl (ov_move rfl rfl) ?_))
      obtain ⟨x13, e24, hm⟩ := bind_some hm
      obtain ⟨h79, h80, h81, cs16, h82, h83⟩ := RL.get rl18 e24
      obtain rfl : cs16 = [(.int .u8 x13.first), (.int .u8 x13.second)] := h82
      refine TQ 8 (by kernel_rfl) rfl (ov_indexAddr_own (i := 0) underlying78 sizeOf80 rfl rfl rfl rfl h79 h80) (TQ 9 (by kernel_rfl) rfl (ov_load_owns (i := 0) (vs := [(.int .u8 x13.first), (.int .u8 x13.second)]) isAgg80 sizeOf80 rfl rfl rfl (own_pos h79 h80) rfl (fun j u hu => elem_cell h83 hu)) ?_)
      refine AL.any (rs := [5, 10]) (by kernel_rfl) (by decide) ?_
      refine ALs.cons (i := 5) rfl (Runs.free rfl) rfl rfl ?_ ?_
      ·
       refine OQ.step (OV.quiet (ov_load_box (i := 5) isAgg78 rfl rfl rfl rfl)) ?_
       refine ⟨fun w' s => (s.select [0, 4, 6] (by decide) rfl), ?_⟩
       refine AL.any (rs := [10]) (by kernel_rfl) (by decide) ?_
       refine ALs.cons (i := 10) rfl (Runs.free rfl) rfl rfl ?_ ?_
       ·
        have rl26 : RL H encCell ([x13] : List Cell) [(.int .u8 x13.first), (.int .u8 x13.second)] := RL.cons (cs := [(.int .u8 x13.first), (.int .u8 x13.second)]) (xs := []) rfl (RL.nil _ _)
        refine os_buildSlice (cs := [(.int .u8 x13.first), (.int .u8 x13.second)]) (E := 80) (sz := 2) rfl rfl (fun _ => by kernel_rfl) rfl (by decide) (fun b9 => ?_)
        refine ⟨fun w' s => (s.select [1, 5, 7] (by decide) rfl), ?_⟩
        refine AL.any (rs := [11]) (by kernel_rfl) (by decide) ?_
        refine ALs.cons (i := 11) rfl (Runs.free rfl) rfl rfl ?_ ?_
        ·
         obtain ⟨l16, e25, hm⟩ := bind_some hm
         refine os_app (i := 2) (j := 0) (En := encCell) (xs := xs15) (ys := [(.int .u8 x13.first), (.int .u8 x13.second)]) underlying78 (by kernel_rfl : (prog.info? 80).map (fun i => (i.zero, i.size, i.bytes)) = some (some (.agg #[(.int .u8 0), (.int .u8 0)]), (encCell).size, 2)) rfl (by decide) rfl rfl rfl rfl rfl rfl rl21 rl26 e25 (fun ao19 cap19 rl27 => ?_)
         refine ⟨fun w' s => (s.select [1, 5, 7] (by decide) rfl), ?_⟩
         refine TQ 12 (by kernel_rfl) rfl (ov_indexAddr_bsl (j := 2) underlying76 sizeOf78 rfl rfl rfl (eq_of_beq hc10) rfl) ?_
         refine AL.any (rs := [13]) (by kernel_rfl) (by decide) ?_
         refine ALs.cons0 (i := 13) rfl (Runs.free rfl) rfl ?_ ?_
         ·
          refine os_store (i := 6) (vs := [(.slice ao19 (l13 ++ ([x13] : List Cell)).length cap19)]) (cs' := [(.slice ao14 l11.length cap14), (.slice ao15 l12.length cap15), (.slice ao19 (l13 ++ ([x13] : List Cell)).length cap19)]) sizeOf78 rfl rfl rfl rfl rfl rfl rfl rfl rfl ?_
          refine ⟨fun w' s => (s.select [1, 5, 7] (by decide) rfl), ?_⟩
          refine AL.done (by kernel_rfl) ?_
          refine bn (tn (WP.region (V rfl (ov_add rfl rfl rfl) (Vm rfl (WL.nil (tn ?_))))))
          exact ⟨(IntKind.wrap .i64 (i4 + 1)), l11, ao14, cap14, xs13, l12, ao15, cap15, xs14, (l13 ++ ([x13] : List Cell)), ao19, cap19, (xs15 ++ [(.int .u8 x13.first), (.int .u8 x13.second)]), rl19, rl20, rl27, (Sub.all rfl), fun w' s => (s.select [1, 2, 3, 4, 5, 6, 7] (by decide) rfl), hm⟩
         exact ALs.nil
        exact ALs.nil
       exact ALs.nil
      refine ALs.cons (i := 10) rfl (Runs.free rfl) rfl rfl ?_ ?_
      ·
       have rl26 : RL H encCell ([x13] : List Cell) [(.int .u8 x13.first), (.int .u8 x13.second)] := RL.cons (cs := [(.int .u8 x13.first), (.int .u8 x13.second)]) (xs := []) rfl (RL.nil _ _)
       refine os_buildSlice (cs := [(.int .u8 x13.first), (.int .u8 x13.second)]) (E := 80) (sz := 2) rfl rfl (fun _ => by kernel_rfl) rfl (by decide) (fun b9 => ?_)
       refine ⟨fun w' s => (s.select [1, 5, 7] (by decide) rfl), ?_⟩
       refine AL.any (rs := [5]) (by kernel_rfl) (by decide) ?_
       refine ALs.cons (i := 5) rfl (Runs.free rfl) rfl rfl ?_ ?_
       ·
        refine OQ.step (OV.quiet (ov_load_box (i := 6) isAgg78 rfl rfl rfl rfl)) ?_
        refine ⟨fun w' s => (s.select [1, 5, 7] (by decide) rfl), ?_⟩
        refine AL.any (rs := [11]) (by kernel_rfl) (by decide) ?_
        refine ALs.cons (i := 11) rfl (Runs.free rfl) rfl rfl ?_ ?_
        ·
         obtain ⟨l16, e25, hm⟩ := bind_some hm
         refine os_app (i := 2) (j := 0) (En := encCell) (xs := xs15) (ys := [(.int .u8 x13.first), (.int .u8 x13.second)]) underlying78 (by kernel_rfl : (prog.info? 80).map (fun i => (i.zero, i.size, i.bytes)) = some (some (.agg #[(.int .u8 0), (.int .u8 0)]), (encCell).size, 2)) rfl (by decide) rfl rfl rfl rfl rfl rfl rl21 rl26 e25 (fun ao19 cap19 rl27 => ?_)
         refine ⟨fun w' s => (s.select [1, 5, 7] (by decide) rfl), ?_⟩
         refine TQ 12 (by kernel_rfl) rfl (ov_indexAddr_bsl (j := 2) underlying76 sizeOf78 rfl rfl rfl (eq_of_beq hc10) rfl) ?_
         refine AL.any (rs := [13]) (by kernel_rfl) (by decide) ?_
         refine ALs.cons0 (i := 13) rfl (Runs.free rfl) rfl ?_ ?_
         ·
          refine os_store (i := 6) (vs := [(.slice ao19 (l13 ++ ([x13] : List Cell)).length cap19)]) (cs' := [(.slice ao14 l11.length cap14), (.slice ao15 l12.length cap15), (.slice ao19 (l13 ++ ([x13] : List Cell)).length cap19)]) sizeOf78 rfl rfl rfl rfl rfl rfl rfl rfl rfl ?_
          refine ⟨fun w' s => (s.select [1, 5, 7] (by decide) rfl), ?_⟩
          refine AL.done (by kernel_rfl) ?_
          refine bn (tn (WP.region (V rfl (ov_add rfl rfl rfl) (Vm rfl (WL.nil (tn ?_))))))
          exact ⟨(IntKind.wrap .i64 (i4 + 1)), l11, ao14, cap14, xs13, l12, ao15, cap15, xs14, (l13 ++ ([x13] : List Cell)), ao19, cap19, (xs15 ++ [(.int .u8 x13.first), (.int .u8 x13.second)]), rl19, rl20, rl27, (Sub.all rfl), fun w' s => (s.select [1, 2, 3, 4, 5, 6, 7] (by decide) rfl), hm⟩
         exact ALs.nil
        exact ALs.nil
       exact ALs.nil
      exact ALs.nil
     replace hm := ite_f hc10 hm
     exact (none_some hm).elim
    replace hm := ite_f hc7 hm
    refine WP.exit (then_exit (then_exit (block_here (bn (tn ?_)))))
    exact ⟨l9, ao12, cap12, xs11, l11, ao14, cap14, xs13, l12, ao15, cap15, xs14, l13, ao16, cap16, xs15, rl17, rl19, rl20, rl21, (Sub.all rfl), fun w' s => (s.select [1, 2, 3, 4, 5, 6] (by decide) rfl), hm⟩
   rintro g' S' ⟨l17, ao20, cap20, xs16, l18, ao21, cap21, xs17, l19, ao22, cap22, xs18, l20, ao23, cap23, xs19, rl28, rl29, rl30, rl31, hsub7, hS7, hm⟩
   refine WP.sub hsub7 (WP.weaken hS7 ?_)
   replace hm := (congrFun (congrFun (congrFun (congrFun hk2 l17) l18) l19) l20).symm.trans hm
   refine WP.region (V rfl (ov_add rfl rfl rfl) (Vm rfl (WL.nil (tn ?_))))
   exact ⟨(IntKind.wrap .i64 (i1 + 1)), l17, ao20, cap20, xs16, l18, ao21, cap21, xs17, l19, ao22, cap22, xs18, l20, ao23, cap23, xs19, rl28, rl29, rl30, rl31, (Sub.all rfl), fun w' s => s, hm⟩
  replace hm := ite_f hc3 hm
  refine WP.exit (then_exit (then_exit (block_here (tn ?_))))
  exact ⟨l2, ao4, cap4, xs3, l3, ao5, cap5, xs4, l4, ao6, cap6, xs5, rl6, rl7, rl8, (Sub.all rfl), fun w' s => (s.select [0, 1, 2, 4] (by decide) rfl), hm⟩
 rintro g' S' ⟨l21, ao24, cap24, xs20, l22, ao25, cap25, xs21, l23, ao26, cap26, xs22, rl32, rl33, rl34, hsub8, hS8, hm⟩
 refine WP.sub hsub8 (WP.weaken hS8 ?_)
 replace hm := (congrFun (congrFun (congrFun hk1 l21) l22) l23).symm.trans hm
 refine WP.seq (WP.region (Vm rfl ?_))
 refine WL.weaken (fun _ s => s.select [2, 0, 1, 3] (by decide) rfl) ?_
 refine WL.held rl32 (fun H1 hc11 hle1 h84 => ?_)
 replace rl34 := rl34.mono hle1
 replace rl33 := rl33.mono hle1
 refine WL.weaken (fun _ s => s.select [1, 0, 2] (by decide) rfl) ?_
 refine WL.held rl33 (fun H2 hc12 hle2 h85 => ?_)
 replace rl34 := rl34.mono hle2
 replace h84 := h84.mono hle2
 refine WL.held rl34 (fun H3 hc13 hle3 h86 => ?_)
 replace h84 := h84.mono hle3
 replace h85 := h85.mono hle3
 have rl35 : RL H3 (encSl encCell) ([l21, l22, l23] : List (List Cell)) [(.slice ao24 l21.length cap24), (.slice ao25 l22.length cap25), (.slice ao26 l23.length cap26)] := RL.cons (cs := [(.slice ao24 l21.length cap24)]) (xs := [(.slice ao25 l22.length cap25), (.slice ao26 l23.length cap26)]) ⟨ao24, cap24, rfl, h84, hc11⟩ (RL.cons (cs := [(.slice ao25 l22.length cap25)]) (xs := [(.slice ao26 l23.length cap26)]) ⟨ao25, cap25, rfl, h85, hc12⟩ (RL.cons (cs := [(.slice ao26 l23.length cap26)]) (xs := []) ⟨ao26, cap26, rfl, h86, hc13⟩ (RL.nil _ _)))
 refine WL.weaken (fun _ s => s.blk_rowN (N := 3) (sz := 1) rfl (by decide)) ?_
 refine Va rfl (WL.nil (tn (WP.ret ?_)))
 obtain rfl := Option.some.inj hm
 refine retQ_ret results43 (Res.tmp rfl Res.nil) rfl (fun w' s => ⟨s.below, ?_⟩)
 obtain ⟨h87, hc14⟩ := s.ret_row (i := 0) rfl rl35
 exact ⟨(some ⟨b2, 0, none⟩), 3, rfl, h87, hc14⟩
theorem diagram_cells4_con (p_s : Sequence) (ao1 : Option Addr) (cap1 : Nat) (w : World) (H : Heap) (hH : Le H (hp w)) (h1 : SL H encStep ao1 p_s.steps) (hc1 : p_s.steps.length ≤ cap1) (hG : Glob H) (hn : (p_s.actuators == 4) = true) (r : (List (List Cell))) (hm : diagram_cells4 p_s = some r) :
  Con prog 43 [(.agg #[(.int .i64 p_s.actuators), (.slice ao1 p_s.steps.length cap1)])] w H (fun v H' => ∃ (ao2 : Option Addr) (cap2 : Nat), v = (.slice ao2 r.length cap2) ∧ SL H' (encSl encCell) ao2 r ∧ r.length ≤ cap2) := by
 unfold diagram_cells4 at hm
 refine con_of hH func43 rfl 99 ntmps43 rfl ?_
 refine WP.seq (WP.region ?_)
 refine ws rfl (os_box (cs := [(.int .i64 p_s.actuators), (.slice ao1 p_s.steps.length cap1)]) rfl rfl rfl (fun b1 => ?_))
 refine Va rfl (WL.nil (tn (WP.seq (WP.region (V rfl (ov_fieldAddr underlying24 rfl rfl rfl sizeOf3 rfl rfl) (Vl 0 isAgg3 rfl ?_))))))
 refine ws rfl (os_makeSlice_n (N := 4) (sz := 1) (bytes := 24) (z := (.slice none 0 0)) (cs := [(.slice none 0 0), (.slice none 0 0), (.slice none 0 0), (.slice none 0 0)]) underlying76 (by kernel_rfl) (by kernel_rfl) rfl rfl rfl (eq_of_beq hn) (by decide) (by decide) (fun b2 => ?_))
 refine Va rfl (WL.nil (tn (WP.seq (WP.region (V rfl (ov_fieldAddr underlying24 rfl rfl rfl sizeOf3 rfl rfl) (Vl 1 isAgg3 rfl ?_))))))
 obtain ⟨u1, e1, hm⟩ := bind_some hm
 replace e1 := guardO_some e1
 refine ws rfl (os_makeSlice (En := encBool) (z := (.bool false)) (y0 := false) (bytes := 1) underlying49 (by kernel_rfl) rfl (by decide) rfl rfl rfl e1 (fun b3 xs1 rl1 => ?_))
 refine Va rfl (WL.nil (tn ?_))
 obtain ⟨k1, hk1, hm⟩ := joinK_some hm
 refine WP.seq_join (fun g' S' => ∃ (l25 : (List Cell)) (ao28 : Option Addr) (cap28 : Nat) (xs23 : List Value) (l26 : (List Cell)) (ao29 : Option Addr) (cap29 : Nat) (xs24 : List Value) (l27 : (List Cell)) (ao30 : Option Addr) (cap30 : Nat) (xs25 : List Value) (l28 : (List Cell)) (ao31 : Option Addr) (cap31 : Nat) (xs26 : List Value), RL H encCell l25 xs23 ∧ RL H encCell l26 xs24 ∧ RL H encCell l27 xs25 ∧ RL H encCell l28 xs26 ∧ Sub [(3, (.slice (some ⟨b2, 0, none⟩) 4 4)), (1000000007, (.bool false))] g' ∧ (∀ w', S' w' → St w H [.row 80 (encCell).size l28.length (.slice ao31 l28.length cap31) xs26, .row 80 (encCell).size l27.length (.slice ao30 l27.length cap30) xs25, .row 80 (encCell).size l26.length (.slice ao29 l26.length cap29) xs24, .row 80 (encCell).size l25.length (.slice ao28 l25.length cap28) xs23, .blk b2 78 [(.slice ao28 l25.length cap28), (.slice ao29 l26.length cap29), (.slice ao30 l27.length cap30), (.slice ao31 l28.length cap31)]] H w') ∧ k1 l25 l26 l27 l28 = some r) ?_ ?_
 ·
  refine WP.seq (WP.region (V rfl (ov_fieldAddr underlying24 rfl rfl rfl sizeOf22 rfl rfl) (Vl 2 isAgg22 rfl (V rfl (ov_len_slice underlying22 rfl rfl) (Vm rfl (WL.nil (tn (WP.block ?_))))))))
  have rl2 := RL.nil (α := Cell) H encCell
  refine WP.weaken (fun _ s => s.nilrow 80 (encCell).size) ?_
  have rl3 := RL.nil (α := Cell) H encCell
  refine WP.weaken (fun _ s => s.nilrow 80 (encCell).size) ?_
  have rl4 := RL.nil (α := Cell) H encCell
  refine WP.weaken (fun _ s => s.nilrow 80 (encCell).size) ?_
  have rl5 := RL.nil (α := Cell) H encCell
  refine WP.weaken (fun _ s => s.nilrow 80 (encCell).size) ?_
  refine WP.loop (fun m1 g' S' => ∃ (i1 : Int) (l1 : (List Bool)) (ao3 : Option Addr) (cap3 : Nat) (xs2 : List Value) (l2 : (List Cell)) (ao4 : Option Addr) (cap4 : Nat) (xs3 : List Value) (l3 : (List Cell)) (ao5 : Option Addr) (cap5 : Nat) (xs4 : List Value) (l4 : (List Cell)) (ao6 : Option Addr) (cap6 : Nat) (xs5 : List Value) (l5 : (List Cell)) (ao7 : Option Addr) (cap7 : Nat) (xs6 : List Value), RL H encBool l1 xs2 ∧ RL H encCell l2 xs3 ∧ RL H encCell l3 xs4 ∧ RL H encCell l4 xs5 ∧ RL H encCell l5 xs6 ∧ Sub [(1, (pB b1 0)), (3, (.slice (some ⟨b2, 0, none⟩) 4 4)), (4, (.slice ao3 l1.length cap3)), (20, (.slice ao1 p_s.steps.length cap1)), (21, (.int .i64 (p_s.steps.length : Int))), (22, (.int .i64 i1)), (1000000007, (.bool false))] g' ∧ (∀ w', S' w' → St w H [.row 80 (encCell).size l5.length (.slice ao7 l5.length cap7) xs6, .row 80 (encCell).size l4.length (.slice ao6 l4.length cap6) xs5, .row 80 (encCell).size l3.length (.slice ao5 l3.length cap5) xs4, .row 80 (encCell).size l2.length (.slice ao4 l2.length cap4) xs3, .row 4 (encBool).size l1.length (.slice ao3 l1.length cap3) xs2, .blk b2 78 [(.slice ao4 l2.length cap4), (.slice ao5 l3.length cap5), (.slice ao6 l4.length cap6), (.slice ao7 l5.length cap7)], .blk b1 24 [(.int .i64 p_s.actuators), (.slice ao1 p_s.steps.length cap1)]] H w') ∧ diagram_cells4_loop1 p_s k1 m1 i1 l1 l2 l3 l4 l5 = some r) ((Int.toNat ((p_s.steps.length : Int) - 0) + 1)) ⟨0, (List.replicate (Int.toNat p_s.actuators) false), (some ⟨b3, 0, none⟩), (Int.toNat p_s.actuators), xs1, ([] : List Cell), none, 0, [], ([] : List Cell), none, 0, [], ([] : List Cell), none, 0, [], ([] : List Cell), none, 0, [], rl1, rl2, rl3, rl4, rl5, (Sub.all rfl), fun w' s => s, hm⟩ ?_ ?_
  ·
   rintro g' S' ⟨_, _, _, _, _, _, _, _, _, _, _, _, _, _, _, _, _, _, _, _, _, _, _, _, _, _, _, _, hm⟩
   exact none_some hm
  rintro m1 g' S' ⟨i1, l1, ao3, cap3, xs2, l2, ao4, cap4, xs3, l3, ao5, cap5, xs4, l4, ao6, cap6, xs5, l5, ao7, cap7, xs6, rl6, rl7, rl8, rl9, rl10, hsub1, hS1, hm⟩
  refine WP.sub hsub1 (WP.weaken hS1 ?_)
  rw [diagram_cells4_loop1] at hm
  refine WP.seq (WP.region (V rfl (ov_lss rfl rfl rfl) (WL.nil (tn (WP.seq ?_)))))
  refine WP.cond rfl (fun hc3 => ?_) (fun hc3 => ?_)
  ·
   replace hm := ite_t hc3 hm
   refine WP.skip (tn ?_)
   obtain ⟨k2, hk2, hm⟩ := joinK_some hm
   refine WP.seq_join (fun g' S' => ∃ (l20 : (List Bool)) (ao23 : Option Addr) (cap23 : Nat) (xs18 : List Value) (l21 : (List Cell)) (ao24 : Option Addr) (cap24 : Nat) (xs19 : List Value) (l22 : (List Cell)) (ao25 : Option Addr) (cap25 : Nat) (xs20 : List Value) (l23 : (List Cell)) (ao26 : Option Addr) (cap26 : Nat) (xs21 : List Value) (l24 : (List Cell)) (ao27 : Option Addr) (cap27 : Nat) (xs22 : List Value), RL H encBool l20 xs18 ∧ RL H encCell l21 xs19 ∧ RL H encCell l22 xs20 ∧ RL H encCell l23 xs21 ∧ RL H encCell l24 xs22 ∧ Sub [(1, (pB b1 0)), (3, (.slice (some ⟨b2, 0, none⟩) 4 4)), (4, (.slice ao23 l20.length cap23)), (20, (.slice ao1 p_s.steps.length cap1)), (21, (.int .i64 (p_s.steps.length : Int))), (22, (.int .i64 i1)), (1000000007, (.bool false))] g' ∧ (∀ w', S' w' → St w H [.row 80 (encCell).size l24.length (.slice ao27 l24.length cap27) xs22, .row 80 (encCell).size l23.length (.slice ao26 l23.length cap26) xs21, .row 80 (encCell).size l22.length (.slice ao25 l22.length cap25) xs20, .row 80 (encCell).size l21.length (.slice ao24 l21.length cap24) xs19, .row 4 (encBool).size l20.length (.slice ao23 l20.length cap23) xs18, .blk b2 78 [(.slice ao24 l21.length cap24), (.slice ao25 l22.length cap25), (.slice ao26 l23.length cap26), (.slice ao27 l24.length cap27)], .blk b1 24 [(.int .i64 p_s.actuators), (.slice ao1 p_s.steps.length cap1)]] H w') ∧ k2 l20 l21 l22 l23 l24 = some r) ?_ ?_
   ·
    refine WP.block (WP.seq (WP.region ?_))
    obtain ⟨x1, e2, hm⟩ := bind_some hm
    obtain ⟨h4, h5, h6, cs1, h7, h8⟩ := h1.get e2 (by decide)
    obtain ⟨ao8, cap8, rfl, h3, hc4⟩ := h7
    refine V rfl (ov_indexAddr underlying22 sizeOf45 rfl rfl rfl h4 h5 h6) (V rfl (ov_load_elems (vs := [(.slice ao8 x1.strokes.length cap8), (.int .i64 x1.wait)]) isAgg45 sizeOf45 rfl rfl rfl h8 h6) ?_)
    refine ws rfl (os_alloc (cs := [(.slice none 0 0), (.int .i64 0)]) zeroValue45 rfl rfl (fun b4 => ?_))
    refine ws0 rfl (os_store (i := 0) (vs := [(.slice ao8 x1.strokes.length cap8), (.int .i64 x1.wait)]) (cs' := [(.slice ao8 x1.strokes.length cap8), (.int .i64 x1.wait)]) sizeOf45 rfl rfl rfl rfl rfl rfl rfl rfl rfl ?_)
    refine WL.nil (tn (WP.seq (WP.region (V rfl (ov_fieldAddr underlying24 rfl rfl rfl sizeOf3 rfl rfl) (Vl 7 isAgg3 rfl ?_)))))
    obtain ⟨u2, e3, hm⟩ := bind_some hm
    replace e3 := guardO_some e3
    refine ws rfl (os_makeSlice (En := encCell) (z := (.agg #[(.int .u8 0), (.int .u8 0)])) (y0 := (Cell.mk 0 0)) (bytes := 2) underlying78 (by kernel_rfl) rfl (by decide) rfl rfl rfl e3 (fun b5 xs7 rl11 => ?_))
    refine Va rfl (WL.nil (tn ?_))
    obtain ⟨k3, hk3, hm⟩ := joinK_some hm
    refine WP.seq_join (fun g' S' => ∃ (l7 : (List Cell)) (ao10 : Option Addr) (cap10 : Nat) (xs9 : List Value), RL H encCell l7 xs9 ∧ Sub [(1, (pB b1 0)), (3, (.slice (some ⟨b2, 0, none⟩) 4 4)), (4, (.slice ao3 l1.length cap3)), (6, (pB b4 0)), (7, (.slice ao10 l7.length cap10)), (20, (.slice ao1 p_s.steps.length cap1)), (21, (.int .i64 (p_s.steps.length : Int))), (22, (.int .i64 i1)), (1000000007, (.bool false))] g' ∧ (∀ w', S' w' → St w H [.row 80 (encCell).size l7.length (.slice ao10 l7.length cap10) xs9, .blk b4 45 [(.slice ao8 x1.strokes.length cap8), (.int .i64 x1.wait)], .row 80 (encCell).size l5.length (.slice ao7 l5.length cap7) xs6, .row 80 (encCell).size l4.length (.slice ao6 l4.length cap6) xs5, .row 80 (encCell).size l3.length (.slice ao5 l3.length cap5) xs4, .row 80 (encCell).size l2.length (.slice ao4 l2.length cap4) xs3, .row 4 (encBool).size l1.length (.slice ao3 l1.length cap3) xs2, .blk b2 78 [(.slice ao4 l2.length cap4), (.slice ao5 l3.length cap5), (.slice ao6 l4.length cap6), (.slice ao7 l5.length cap7)], .blk b1 24 [(.int .i64 p_s.actuators), (.slice ao1 p_s.steps.length cap1)]] H w') ∧ k3 l7 = some r) ?_ ?_
    ·
     refine WP.seq (WP.region (Vm rfl (V rfl (ov_len_slice underlying49 rfl rfl) (Vm rfl (WL.nil (tn (WP.block ?_)))))))
     refine WP.loop (fun m2 g' S' => ∃ (i2 : Int) (l6 : (List Cell)) (ao9 : Option Addr) (cap9 : Nat) (xs8 : List Value), RL H encCell l6 xs8 ∧ Sub [(1, (pB b1 0)), (3, (.slice (some ⟨b2, 0, none⟩) 4 4)), (4, (.slice ao3 l1.length cap3)), (6, (pB b4 0)), (7, (.slice ao9 l6.length cap9)), (20, (.slice ao1 p_s.steps.length cap1)), (21, (.int .i64 (p_s.steps.length : Int))), (22, (.int .i64 i1)), (29, (.slice ao3 l1.length cap3)), (30, (.int .i64 (l1.length : Int))), (31, (.int .i64 i2)), (1000000007, (.bool false))] g' ∧ (∀ w', S' w' → St w H [.row 80 (encCell).size l6.length (.slice ao9 l6.length cap9) xs8, .blk b4 45 [(.slice ao8 x1.strokes.length cap8), (.int .i64 x1.wait)], .row 80 (encCell).size l5.length (.slice ao7 l5.length cap7) xs6, .row 80 (encCell).size l4.length (.slice ao6 l4.length cap6) xs5, .row 80 (encCell).size l3.length (.slice ao5 l3.length cap5) xs4, .row 80 (encCell).size l2.length (.slice ao4 l2.length cap4) xs3, .row 4 (encBool).size l1.length (.slice ao3 l1.length cap3) xs2, .blk b2 78 [(.slice ao4 l2.length cap4), (.slice ao5 l3.length cap5), (.slice ao6 l4.length cap6), (.slice ao7 l5.length cap7)], .blk b1 24 [(.int .i64 p_s.actuators), (.slice ao1 p_s.steps.length cap1)]] H w') ∧ diagram_cells1_loop2 l1 k3 m2 i2 l6 = some r) ((Int.toNat ((l1.length : Int) - 0) + 1)) ⟨0, (List.replicate (Int.toNat p_s.actuators) (Cell.mk 0 0)), (some ⟨b5, 0, none⟩), (Int.toNat p_s.actuators), xs7, rl11, (Sub.all rfl), fun w' s => s, hm⟩ ?_ ?_
     ·
      rintro g' S' ⟨_, _, _, _, _, _, _, _, hm⟩
      exact none_some hm
     rintro m2 g' S' ⟨i2, l6, ao9, cap9, xs8, rl12, hsub2, hS2, hm⟩
     refine WP.sub hsub2 (WP.weaken hS2 ?_)
     rw [diagram_cells1_loop2] at hm
     refine WP.seq (WP.region (V rfl (ov_lss rfl rfl rfl) (WL.nil (tn (WP.seq ?_)))))
     refine WP.cond rfl (fun hc5 => ?_) (fun hc5 => ?_)
     ·
      replace hm := ite_t hc5 hm
      refine WP.skip (tn (WP.seq (WP.block (WP.seq (WP.region (Vm rfl ?_))))))
      obtain ⟨x2, e4, hm⟩ := bind_some hm
      obtain ⟨h9, h10, h11, cs2, h12, h13⟩ := RL.get rl6 e4
      obtain rfl : cs2 = [(.bool x2)] := h12
      refine V rfl (ov_indexAddr_own (i := 6) underlying49 sizeOf4 rfl rfl rfl rfl h9 h10) (V rfl (ov_load_own (i := 6) isAgg4 rfl rfl rfl (own_pos h9 h10) (elem_cell h13 (off := 0) rfl)) (Va rfl (Va rfl (WL.nil (tn ?_)))))
      refine WP.region_any (S₀ := St w H [.blk b4 45 [(.slice ao8 x1.strokes.length cap8), (.int .i64 x1.wait)], .row 80 (encCell).size l5.length (.slice ao7 l5.length cap7) xs6, .row 80 (encCell).size l4.length (.slice ao6 l4.length cap6) xs5, .row 80 (encCell).size l3.length (.slice ao5 l3.length cap5) xs4, .row 80 (encCell).size l2.length (.slice ao4 l2.length cap4) xs3, .row 4 (encBool).size l1.length (.slice ao3 l1.length cap3) xs2, .blk b2 78 [(.slice ao4 l2.length cap4), (.slice ao5 l3.length cap5), (.slice ao6 l4.length cap6), (.slice ao7 l5.length cap7)], .blk b1 24 [(.int .i64 p_s.actuators), (.slice ao1 p_s.steps.length cap1)]] H) 13 rfl (by kernel_rfl) (fun w' s => (s.select [1, 2, 3, 4, 5, 6, 7, 8] (by decide) rfl)) (fun _ s => s.drew) ?_
      refine TQ 0 (by kernel_rfl) rfl (ov_move rfl rfl) (TQ 1 (by kernel_rfl) rfl (ov_move rfl rfl) (TQ 2 (by kernel_rfl) rfl (ov_move rfl rfl) (TQ 6 (by kernel_rfl) rfl (ov_move rfl rfl) ?_)))
      refine AL.any (rs := [3]) (by kernel_rfl) (by decide) ?_
      refine ALs.cons (i := 3) rfl (Runs.free rfl) rfl rfl ?_ ?_
      ·
       obtain ⟨r1, e5, hm⟩ := bind_some hm
       refine OQ.step (oq_con (r := (.int .i64 r1)) call87 rfl rfl (fun w' s => ⟨_, (diagram_index_con x2  w' H s.hold hG r1 e5)⟩)) ?_
       refine ⟨fun w' s => (s.select [1, 2, 3, 4, 5, 6, 7, 8] (by decide) rfl), ?_⟩
       obtain ⟨x3, e6, hm⟩ := bind_some hm
       obtain ⟨h14, h15, h16, cs3, h17, h18⟩ := hG.1.1.1.get e6 (by decide)
       obtain rfl : cs3 = [(.int .u8 x3)] := h17
       refine TQ 4 (by kernel_rfl) rfl (ov_indexAddr_globL rfl underlying84 sizeOf5 rfl rfl rfl h14 h15) (TQ 5 (by kernel_rfl) rfl (ov_load_elem (v := (.int .u8 x3)) isAgg5 rfl rfl h18) ?_)
       refine AL.any (rs := [7]) (by kernel_rfl) (by decide) ?_
       refine ALs.cons (i := 7) rfl (Runs.free rfl) rfl rfl ?_ ?_
       ·
        obtain ⟨r2, e7, hm⟩ := bind_some hm
        refine OQ.step (oq_con (r := (.int .i64 r2)) call87 rfl rfl (fun w' s => ⟨_, (diagram_index_con x2  w' H s.hold hG r2 e7)⟩)) ?_
        refine ⟨fun w' s => (s.select [1, 2, 3, 4, 5, 6, 7, 8] (by decide) rfl), ?_⟩
        obtain ⟨x4, e8, hm⟩ := bind_some hm
        obtain ⟨h19, h20, h21, cs4, h22, h23⟩ := hG.1.1.1.get e8 (by decide)
        obtain rfl : cs4 = [(.int .u8 x4)] := h22
        refine TQ 8 (by kernel_rfl) rfl (ov_indexAddr_globL rfl underlying84 sizeOf5 rfl rfl rfl h19 h20) (TQ 9 (by kernel_rfl) rfl (ov_load_elem (v := (.int .u8 x4)) isAgg5 rfl rfl h23) (TQ 10 (by kernel_rfl) rfl (ov_build (r := (.agg #[(.int .u8 x3), (.int .u8 x4)])) rfl rfl (fun _ => by kernel_rfl)) ?_))
        refine AL.any (rs := [11]) (by kernel_rfl) (by decide) ?_
        refine ALs.cons (i := 11) rfl (Runs.free rfl) rfl rfl ?_ ?_
        ·
         obtain ⟨x5, e9, hm⟩ := bind_some hm
         obtain ⟨h24, h25, h26, cs5, h27, h28⟩ := RL.get rl12 e9
         obtain rfl : cs5 = [(.int .u8 x5.first), (.int .u8 x5.second)] := h27
         refine OQ.step (OV.quiet (ov_indexAddr_own (i := 0) underlying78 sizeOf80 rfl rfl rfl rfl h24 h25)) ?_
         refine ⟨fun w' s => (s.select [1, 2, 3, 4, 5, 6, 7, 8] (by decide) rfl), ?_⟩
         refine AL.any (rs := [12]) (by kernel_rfl) (by decide) ?_
         refine ALs.cons0 (i := 12) rfl (Runs.free rfl) rfl ?_ ?_
         ·
          have rl13 := RL.set rl12 (y := (Cell.mk x3 x4)) (off := 0) (vs := [(.int .u8 x3), (.int .u8 x4)]) e9 h28 rfl (Nat.le_of_ble_eq_true rfl)
          have e10 := at?_set (y := (Cell.mk x3 x4)) e9
          refine os_store_own (i := 0) (vs := [(.int .u8 x3), (.int .u8 x4)]) sizeOf80 rfl rfl rfl rfl (own_pos h24 h25) rfl rfl (elem_le (off := 0) h26 (Nat.le_of_ble_eq_true rfl)) rfl ?_
          rw [show l6.length = (List.set l6 (Int.toNat i2) (Cell.mk x3 x4)).length from List.length_set.symm]
          obtain ⟨h29, h30, h31, cs6, h32, h33⟩ := rl13.get e10
          obtain rfl : cs6 = [(.int .u8 x3), (.int .u8 x4)] := h32
          refine ⟨fun w' s => (s.select [1, 2, 3, 4, 5, 6, 7, 8] (by decide) rfl), ?_⟩
          refine AL.done (by kernel_rfl) ?_
          refine bn (tn (WP.region (V rfl (ov_add rfl rfl rfl) (Vm rfl (WL.nil (tn ?_))))))
          exact ⟨(IntKind.wrap .i64 (i2 + 1)), (List.set l6 (Int.toNat i2) (Cell.mk x3 x4)), ao9, cap9, (spl xs8 (Int.toNat i2 * encCell.size + 0) [(.int .u8 x3), (.int .u8 x4)]), rl13, (Sub.all rfl), fun w' s => s, hm⟩
         exact ALs.nil
        exact ALs.nil
       exact ALs.nil
      exact ALs.nil
     replace hm := ite_f hc5 hm
     refine WP.exit (then_exit (then_exit (block_here (tn ?_))))
     exact ⟨l6, ao9, cap9, xs8, rl12, (Sub.all rfl), fun w' s => s, hm⟩
    rintro g' S' ⟨l7, ao10, cap10, xs9, rl14, hsub3, hS3, hm⟩
    refine WP.sub hsub3 (WP.weaken hS3 ?_)
    replace hm := (congrFun hk3 l7).symm.trans hm
    obtain ⟨k4, hk4, hm⟩ := joinK_some hm
    refine WP.seq_join (fun g' S' => ∃ (l10 : (List Bool)) (ao13 : Option Addr) (cap13 : Nat) (xs12 : List Value) (l11 : (List Cell)) (ao14 : Option Addr) (cap14 : Nat) (xs13 : List Value), RL H encBool l10 xs12 ∧ RL H encCell l11 xs13 ∧ Sub [(1, (pB b1 0)), (3, (.slice (some ⟨b2, 0, none⟩) 4 4)), (4, (.slice ao13 l10.length cap13)), (7, (.slice ao14 l11.length cap14)), (20, (.slice ao1 p_s.steps.length cap1)), (21, (.int .i64 (p_s.steps.length : Int))), (22, (.int .i64 i1)), (1000000007, (.bool false))] g' ∧ (∀ w', S' w' → St w H [.row 80 (encCell).size l11.length (.slice ao14 l11.length cap14) xs13, .row 80 (encCell).size l5.length (.slice ao7 l5.length cap7) xs6, .row 80 (encCell).size l4.length (.slice ao6 l4.length cap6) xs5, .row 80 (encCell).size l3.length (.slice ao5 l3.length cap5) xs4, .row 80 (encCell).size l2.length (.slice ao4 l2.length cap4) xs3, .row 4 (encBool).size l10.length (.slice ao13 l10.length cap13) xs12, .blk b2 78 [(.slice ao4 l2.length cap4), (.slice ao5 l3.length cap5), (.slice ao6 l4.length cap6), (.slice ao7 l5.length cap7)], .blk b1 24 [(.int .i64 p_s.actuators), (.slice ao1 p_s.steps.length cap1)]] H w') ∧ k4 l10 l11 = some r) ?_ ?_
    ·
     refine WP.seq (WP.region (V rfl (ov_fieldAddr underlying45 rfl rfl rfl sizeOf43 rfl rfl) (Vl 1 isAgg43 rfl (V rfl (ov_len_slice underlying43 rfl rfl) (Vm rfl (WL.nil (tn (WP.block ?_))))))))
     refine WP.loop (fun m3 g' S' => ∃ (i3 : Int) (l8 : (List Bool)) (ao11 : Option Addr) (cap11 : Nat) (xs10 : List Value) (l9 : (List Cell)) (ao12 : Option Addr) (cap12 : Nat) (xs11 : List Value), RL H encBool l8 xs10 ∧ RL H encCell l9 xs11 ∧ Sub [(1, (pB b1 0)), (3, (.slice (some ⟨b2, 0, none⟩) 4 4)), (4, (.slice ao11 l8.length cap11)), (7, (.slice ao12 l9.length cap12)), (20, (.slice ao1 p_s.steps.length cap1)), (21, (.int .i64 (p_s.steps.length : Int))), (22, (.int .i64 i1)), (50, (.slice ao8 x1.strokes.length cap8)), (51, (.int .i64 (x1.strokes.length : Int))), (52, (.int .i64 i3)), (1000000007, (.bool false))] g' ∧ (∀ w', S' w' → St w H [.row 80 (encCell).size l9.length (.slice ao12 l9.length cap12) xs11, .row 80 (encCell).size l5.length (.slice ao7 l5.length cap7) xs6, .row 80 (encCell).size l4.length (.slice ao6 l4.length cap6) xs5, .row 80 (encCell).size l3.length (.slice ao5 l3.length cap5) xs4, .row 80 (encCell).size l2.length (.slice ao4 l2.length cap4) xs3, .row 4 (encBool).size l8.length (.slice ao11 l8.length cap11) xs10, .blk b2 78 [(.slice ao4 l2.length cap4), (.slice ao5 l3.length cap5), (.slice ao6 l4.length cap6), (.slice ao7 l5.length cap7)], .blk b1 24 [(.int .i64 p_s.actuators), (.slice ao1 p_s.steps.length cap1)]] H w') ∧ diagram_cells1_loop3 x1 k4 m3 i3 l8 l9 = some r) ((Int.toNat ((x1.strokes.length : Int) - 0) + 1)) ⟨0, l1, ao3, cap3, xs2, l7, ao10, cap10, xs9, rl6, rl14, (Sub.all rfl), fun w' s => (s.select [0, 2, 3, 4, 5, 6, 7, 8] (by decide) rfl), hm⟩ ?_ ?_
     ·
      rintro g' S' ⟨_, _, _, _, _, _, _, _, _, _, _, _, _, hm⟩
      exact none_some hm
     rintro m3 g' S' ⟨i3, l8, ao11, cap11, xs10, l9, ao12, cap12, xs11, rl15, rl16, hsub4, hS4, hm⟩
     refine WP.sub hsub4 (WP.weaken hS4 ?_)
     rw [diagram_cells1_loop3] at hm
     refine WP.seq (WP.region (V rfl (ov_lss rfl rfl rfl) (WL.nil (tn (WP.seq ?_)))))
     refine WP.cond rfl (fun hc6 => ?_) (fun hc6 => ?_)
     ·
      replace hm := ite_t hc6 hm
      refine WP.skip (tn (WP.seq (WP.block (WP.seq (WP.region ?_)))))
      obtain ⟨x6, e11, hm⟩ := bind_some hm
      obtain ⟨h34, h35, h36, cs7, h37, h38⟩ := h3.get e11 (by decide)
      obtain rfl : cs7 = [(.int .i64 x6.actuator), (.bool x6.out)] := h37
      refine V rfl (ov_indexAddr underlying43 sizeOf48 rfl rfl rfl h34 h35 h36) (V rfl (ov_load_elems (vs := [(.int .i64 x6.actuator), (.bool x6.out)]) isAgg48 sizeOf48 rfl rfl rfl h38 h36) ?_)
      refine ws rfl (os_alloc (cs := [(.int .i64 0), (.bool false)]) zeroValue48 rfl rfl (fun b6 => ?_))
      refine ws0 rfl (os_store (i := 0) (vs := [(.int .i64 x6.actuator), (.bool x6.out)]) (cs' := [(.int .i64 x6.actuator), (.bool x6.out)]) sizeOf48 rfl rfl rfl rfl rfl rfl rfl rfl rfl ?_)
      refine WL.nil (tn (WP.seq (WP.region (Vm rfl (V rfl (ov_fieldAddr underlying48 rfl rfl rfl sizeOf3 rfl rfl) (Vl 0 isAgg3 rfl (V rfl (ov_fieldAddr underlying48 rfl rfl rfl sizeOf4 rfl rfl) (Vl 0 isAgg4 rfl ?_))))))))
      obtain ⟨x7, e12, hm⟩ := bind_some hm
      obtain ⟨h39, h40, h41, cs8, h42, h43⟩ := RL.get rl15 e12
      obtain rfl : cs8 = [(.bool x7)] := h42
      refine V rfl (ov_indexAddr_own (i := 6) underlying49 sizeOf4 rfl rfl rfl rfl h39 h40) ?_
      have rl17 := RL.set rl15 (y := x6.out) (off := 0) (vs := [(.bool x6.out)]) e12 h43 rfl (Nat.le_of_ble_eq_true rfl)
      have e13 := at?_set (y := x6.out) e12
      refine ws0 rfl (os_store_own (i := 6) (vs := [(.bool x6.out)]) sizeOf4 rfl rfl rfl rfl (own_pos h39 h40) rfl rfl (elem_le (off := 0) h41 (Nat.le_of_ble_eq_true rfl)) rfl ?_)
      rw [show l8.length = (List.set l8 (Int.toNat x6.actuator) x6.out).length from List.length_set.symm]
      obtain ⟨h44, h45, h46, cs9, h47, h48⟩ := rl17.get e13
      obtain rfl : cs9 = [(.bool x6.out)] := h47
      refine WL.nil (tn ?_)
      refine WP.region_any (S₀ := St w H [.blk b6 48 [(.int .i64 x6.actuator), (.bool x6.out)], .row 80 (encCell).size l5.length (.slice ao7 l5.length cap7) xs6, .row 80 (encCell).size l4.length (.slice ao6 l4.length cap6) xs5, .row 80 (encCell).size l3.length (.slice ao5 l3.length cap5) xs4, .row 80 (encCell).size l2.length (.slice ao4 l2.length cap4) xs3, .row 4 (encBool).size (List.set l8 (Int.toNat x6.actuator) x6.out).length (.slice ao11 (List.set l8 (Int.toNat x6.actuator) x6.out).length cap11) (spl xs10 (Int.toNat x6.actuator * encBool.size + 0) [(.bool x6.out)]), .blk b2 78 [(.slice ao4 l2.length cap4), (.slice ao5 l3.length cap5), (.slice ao6 l4.length cap6), (.slice ao7 l5.length cap7)], .blk b1 24 [(.int .i64 p_s.actuators), (.slice ao1 p_s.steps.length cap1)]] H) 16 rfl (by kernel_rfl) (fun w' s => (s.select [0, 2, 3, 4, 5, 6, 7, 8] (by decide) rfl)) (fun _ s => s.drew) ?_
      refine TQ 0 (by kernel_rfl) rfl (ov_move rfl rfl) (TQ 1 (by kernel_rfl) rfl (ov_fieldAddr underlying48 rfl rfl rfl sizeOf3 rfl rfl) (TQ 2 (by kernel_rfl) rfl (ov_load_box (i := 0) isAgg3 rfl rfl rfl rfl) (TQ 3 (by kernel_rfl) rfl (ov_fieldAddr underlying48 rfl rfl rfl sizeOf4 rfl rfl) (TQ 4 (by kernel_rfl) rfl (ov_load_box (i := 0) isAgg4 rfl rfl rfl rfl) (TQ 8 (by kernel_rfl) rfl (ov_fieldAddr underlying48 rfl rfl rfl sizeOf4 rfl rfl) (TQ 9 (by kernel_rfl) rfl (ov_load_box (i := 0) isAgg4 rfl rfl rfl rfl) ?_))))))
      refine AL.any (rs := [5]) (by kernel_rfl) (by decide) ?_
      refine ALs.cons (i := 5) rfl (Runs.free rfl) rfl rfl ?_ ?_
      ·
       obtain ⟨r3, e14, hm⟩ := bind_some hm
       refine OQ.step (oq_con (r := (.int .i64 r3)) call87 rfl rfl (fun w' s => ⟨_, (diagram_index_con x6.out  w' H s.hold hG r3 e14)⟩)) ?_
       refine ⟨fun w' s => (s.select [0, 2, 3, 4, 5, 6, 7, 8] (by decide) rfl), ?_⟩
       obtain ⟨x8, e15, hm⟩ := bind_some hm
       obtain ⟨h49, h50, h51, cs10, h52, h53⟩ := hG.1.1.2.get e15 (by decide)
       obtain rfl : cs10 = [(.int .u8 x8)] := h52
       refine TQ 6 (by kernel_rfl) rfl (ov_indexAddr_globL rfl underlying84 sizeOf5 rfl rfl rfl h49 h50) (TQ 7 (by kernel_rfl) rfl (ov_load_elem (v := (.int .u8 x8)) isAgg5 rfl rfl h53) ?_)
       refine AL.any (rs := [10]) (by kernel_rfl) (by decide) ?_
       refine ALs.cons (i := 10) rfl (Runs.free rfl) rfl rfl ?_ ?_
       ·
        obtain ⟨r4, e16, hm⟩ := bind_some hm
        refine OQ.step (oq_con (r := (.int .i64 r4)) call87 rfl rfl (fun w' s => ⟨_, (diagram_index_con x6.out  w' H s.hold hG r4 e16)⟩)) ?_
        refine ⟨fun w' s => (s.select [0, 2, 3, 4, 5, 6, 7, 8] (by decide) rfl), ?_⟩
        obtain ⟨x9, e17, hm⟩ := bind_some hm
        obtain ⟨h54, h55, h56, cs11, h57, h58⟩ := hG.1.1.1.get e17 (by decide)
        obtain rfl : cs11 = [(.int .u8 x9)] := h57
        refine TQ 11 (by kernel_rfl) rfl (ov_indexAddr_globL rfl underlying84 sizeOf5 rfl rfl rfl h54 h55) (TQ 12 (by kernel_rfl) rfl (ov_load_elem (v := (.int .u8 x9)) isAgg5 rfl rfl h58) (TQ 13 (by kernel_rfl) rfl (ov_build (r := (.agg #[(.int .u8 x8), (.int .u8 x9)])) rfl rfl (fun _ => by kernel_rfl)) ?_))
        refine AL.any (rs := [14]) (by kernel_rfl) (by decide) ?_
        refine ALs.cons (i := 14) rfl (Runs.free rfl) rfl rfl ?_ ?_
        ·
         obtain ⟨x10, e18, hm⟩ := bind_some hm
         obtain ⟨h59, h60, h61, cs12, h62, h63⟩ := RL.get rl16 e18
         obtain rfl : cs12 = [(.int .u8 x10.first), (.int .u8 x10.second)] := h62
         refine OQ.step (OV.quiet (ov_indexAddr_own (i := 1) underlying78 sizeOf80 rfl rfl rfl rfl h59 h60)) ?_
         refine ⟨fun w' s => (s.select [0, 2, 3, 4, 5, 6, 7, 8] (by decide) rfl), ?_⟩
         refine AL.any (rs := [15]) (by kernel_rfl) (by decide) ?_
         refine ALs.cons0 (i := 15) rfl (Runs.free rfl) rfl ?_ ?_
         ·
          have rl18 := RL.set rl16 (y := (Cell.mk x8 x9)) (off := 0) (vs := [(.int .u8 x8), (.int .u8 x9)]) e18 h63 rfl (Nat.le_of_ble_eq_true rfl)
          have e19 := at?_set (y := (Cell.mk x8 x9)) e18
          refine os_store_own (i := 1) (vs := [(.int .u8 x8), (.int .u8 x9)]) sizeOf80 rfl rfl rfl rfl (own_pos h59 h60) rfl rfl (elem_le (off := 0) h61 (Nat.le_of_ble_eq_true rfl)) rfl ?_
          rw [show l9.length = (List.set l9 (Int.toNat x6.actuator) (Cell.mk x8 x9)).length from List.length_set.symm]
          obtain ⟨h64, h65, h66, cs13, h67, h68⟩ := rl18.get e19
          obtain rfl : cs13 = [(.int .u8 x8), (.int .u8 x9)] := h67
          refine ⟨fun w' s => (s.select [0, 2, 3, 4, 5, 6, 7, 8] (by decide) rfl), ?_⟩
          refine AL.done (by kernel_rfl) ?_
          refine bn (tn (WP.region (V rfl (ov_add rfl rfl rfl) (Vm rfl (WL.nil (tn ?_))))))
          exact ⟨(IntKind.wrap .i64 (i3 + 1)), (List.set l8 (Int.toNat x6.actuator) x6.out), ao11, cap11, (spl xs10 (Int.toNat x6.actuator * encBool.size + 0) [(.bool x6.out)]), (List.set l9 (Int.toNat x6.actuator) (Cell.mk x8 x9)), ao12, cap12, (spl xs11 (Int.toNat x6.actuator * encCell.size + 0) [(.int .u8 x8), (.int .u8 x9)]), rl17, rl18, (Sub.all rfl), fun w' s => (s.select [1, 2, 3, 4, 5, 6, 7, 8] (by decide) rfl), hm⟩
         exact ALs.nil
        exact ALs.nil
       exact ALs.nil
      exact ALs.nil
     replace hm := ite_f hc6 hm
     refine WP.exit (then_exit (then_exit (block_here (tn ?_))))
     exact ⟨l8, ao11, cap11, xs10, l9, ao12, cap12, xs11, rl15, rl16, (Sub.all rfl), fun w' s => s, hm⟩
    rintro g' S' ⟨l10, ao13, cap13, xs12, l11, ao14, cap14, xs13, rl19, rl20, hsub5, hS5, hm⟩
    refine WP.sub hsub5 (WP.weaken hS5 ?_)
    replace hm := (congrFun (congrFun hk4 l10) l11).symm.trans hm
    refine WP.seq (WP.region (Vm rfl (V rfl (ov_len_slice underlying76 rfl rfl) (Vm rfl (WL.nil (tn (WP.block ?_)))))))
    refine WP.loop (fun m4 g' S' => ∃ (i4 : Int) (l12 : (List Cell)) (ao15 : Option Addr) (cap15 : Nat) (xs14 : List Value) (l13 : (List Cell)) (ao16 : Option Addr) (cap16 : Nat) (xs15 : List Value) (l14 : (List Cell)) (ao17 : Option Addr) (cap17 : Nat) (xs16 : List Value) (l15 : (List Cell)) (ao18 : Option Addr) (cap18 : Nat) (xs17 : List Value), RL H encCell l12 xs14 ∧ RL H encCell l13 xs15 ∧ RL H encCell l14 xs16 ∧ RL H encCell l15 xs17 ∧ Sub [(1, (pB b1 0)), (3, (.slice (some ⟨b2, 0, none⟩) 4 4)), (4, (.slice ao13 l10.length cap13)), (7, (.slice ao14 l11.length cap14)), (20, (.slice ao1 p_s.steps.length cap1)), (21, (.int .i64 (p_s.steps.length : Int))), (22, (.int .i64 i1)), (79, (.int .i64 4)), (80, (.int .i64 i4)), (1000000007, (.bool false))] g' ∧ (∀ w', S' w' → St w H [.row 80 (encCell).size l11.length (.slice ao14 l11.length cap14) xs13, .row 80 (encCell).size l15.length (.slice ao18 l15.length cap18) xs17, .row 80 (encCell).size l14.length (.slice ao17 l14.length cap17) xs16, .row 80 (encCell).size l13.length (.slice ao16 l13.length cap16) xs15, .row 80 (encCell).size l12.length (.slice ao15 l12.length cap15) xs14, .row 4 (encBool).size l10.length (.slice ao13 l10.length cap13) xs12, .blk b2 78 [(.slice ao15 l12.length cap15), (.slice ao16 l13.length cap16), (.slice ao17 l14.length cap17), (.slice ao18 l15.length cap18)], .blk b1 24 [(.int .i64 p_s.actuators), (.slice ao1 p_s.steps.length cap1)]] H w') ∧ diagram_cells4_loop4 k2 l11 l10 m4 i4 l12 l13 l14 l15 = some r) ((Int.toNat (4 - 0) + 1)) ⟨0, l2, ao4, cap4, xs3, l3, ao5, cap5, xs4, l4, ao6, cap6, xs5, l5, ao7, cap7, xs6, rl7, rl8, rl9, rl10, (Sub.all rfl), fun w' s => s, hm⟩ ?_ ?_
    ·
     rintro g' S' ⟨_, _, _, _, _, _, _, _, _, _, _, _, _, _, _, _, _, _, _, _, _, _, _, hm⟩
     exact none_some hm
    rintro m4 g' S' ⟨i4, l12, ao15, cap15, xs14, l13, ao16, cap16, xs15, l14, ao17, cap17, xs16, l15, ao18, cap18, xs17, rl21, rl22, rl23, rl24, hsub6, hS6, hm⟩
    refine WP.sub hsub6 (WP.weaken hS6 ?_)
    rw [diagram_cells4_loop4] at hm
    refine WP.seq (WP.region (V rfl (ov_lss rfl rfl rfl) (WL.nil (tn (WP.seq ?_)))))
    refine WP.cond rfl (fun hc7 => ?_) (fun hc7 => ?_)
    ·
     replace hm := ite_t hc7 hm
     refine WP.skip (tn (WP.seq (WP.block (WP.seq (WP.region (Vm rfl (Va rfl (WL.nil (tn ?_)))))))))
     refine WP.region_any (S₀ := St w H [.row 80 (encCell).size l11.length (.slice ao14 l11.length cap14) xs13, .row 4 (encBool).size l10.length (.slice ao13 l10.length cap13) xs12, .blk b1 24 [(.int .i64 p_s.actuators), (.slice ao1 p_s.steps.length cap1)]] H) 14 rfl (by kernel_rfl) (fun w' s => (s.select [0, 5, 7] (by decide) rfl)) (fun _ s => s.drew) ?_
     refine TQ 0 (by kernel_rfl) rfl (ov_move rfl rfl) (TQ 1 (by kernel_rfl) rfl (ov_move rfl rfl) (TQ 2 (by kernel_rfl) rfl (ov_move rfl rfl) (TQ 3 (by kernel_rfl) rfl (ov_move rfl rfl) ?_)))
     rcases Bool.eq_false_or_eq_true (i4 == 0) with hc8 | hc8
     ·
      replace hm := ite_t hc8 hm
      refine TQ 4 (by kernel_rfl) rfl (ov_indexAddr_bsl (j := 0) underlying76 sizeOf78 rfl rfl rfl (eq_of_beq hc8) rfl) (TQ 6 (by kernel_rfl) rfl (ov_move rfl rfl) (TQ 7 (by kernel_rfl) rfl (ov_move rfl rfl) ?_))
      obtain ⟨x11, e20, hm⟩ := bind_some hm
      obtain ⟨h69, h70, h71, cs14, h72, h73⟩ := RL.get rl20 e20
      obtain rfl : cs14 = [(.int .u8 x11.first), (.int .u8 x11.second)] := h72
      refine TQ 8 (by kernel_rfl) rfl (ov_indexAddr_own (i := 0) underlying78 sizeOf80 rfl rfl rfl rfl h69 h70) (TQ 9 (by kernel_rfl) rfl (ov_load_owns (i := 0) (vs := [(.int .u8 x11.first), (.int .u8 x11.second)]) isAgg80 sizeOf80 rfl rfl rfl (own_pos h69 h70) rfl (fun j u hu => elem_cell h73 hu)) ?_)
      refine AL.any (rs := [5, 10]) (by kernel_rfl) (by decide) ?_
      refine ALs.cons (i := 5) rfl (Runs.free rfl) rfl rfl ?_ ?_
      ·
       refine OQ.step (OV.quiet (ov_load_box (i := 6) isAgg78 rfl rfl rfl rfl)) ?_
       refine ⟨fun w' s => (s.select [0, 5, 7] (by decide) rfl), ?_⟩
       refine AL.any (rs := [10]) (by kernel_rfl) (by decide) ?_
       refine ALs.cons (i := 10) rfl (Runs.free rfl) rfl rfl ?_ ?_
       ·
        have rl25 : RL H encCell ([x11] : List Cell) [(.int .u8 x11.first), (.int .u8 x11.second)] := RL.cons (cs := [(.int .u8 x11.first), (.int .u8 x11.second)]) (xs := []) rfl (RL.nil _ _)
        refine os_buildSlice (cs := [(.int .u8 x11.first), (.int .u8 x11.second)]) (E := 80) (sz := 2) rfl rfl (fun _ => by kernel_rfl) rfl (by decide) (fun b7 => ?_)
        refine ⟨fun w' s => (s.select [1, 6, 8] (by decide) rfl), ?_⟩
        refine AL.any (rs := [11]) (by kernel_rfl) (by decide) ?_
        refine ALs.cons (i := 11) rfl (Runs.free rfl) rfl rfl ?_ ?_
        ·
         obtain ⟨l16, e21, hm⟩ := bind_some hm
         refine os_app (i := 5) (j := 0) (En := encCell) (xs := xs14) (ys := [(.int .u8 x11.first), (.int .u8 x11.second)]) underlying78 (by kernel_rfl : (prog.info? 80).map (fun i => (i.zero, i.size, i.bytes)) = some (some (.agg #[(.int .u8 0), (.int .u8 0)]), (encCell).size, 2)) rfl (by decide) rfl rfl rfl rfl rfl rfl rl21 rl25 e21 (fun ao19 cap19 rl26 => ?_)
         refine ⟨fun w' s => (s.select [1, 6, 8] (by decide) rfl), ?_⟩
         refine TQ 12 (by kernel_rfl) rfl (ov_indexAddr_bsl (j := 0) underlying76 sizeOf78 rfl rfl rfl (eq_of_beq hc8) rfl) ?_
         refine AL.any (rs := [13]) (by kernel_rfl) (by decide) ?_
         refine ALs.cons0 (i := 13) rfl (Runs.free rfl) rfl ?_ ?_
         ·
          refine os_store (i := 7) (vs := [(.slice ao19 (l12 ++ ([x11] : List Cell)).length cap19)]) (cs' := [(.slice ao19 (l12 ++ ([x11] : List Cell)).length cap19), (.slice ao16 l13.length cap16), (.slice ao17 l14.length cap17), (.slice ao18 l15.length cap18)]) sizeOf78 rfl rfl rfl rfl rfl rfl rfl rfl rfl ?_
          refine ⟨fun w' s => (s.select [1, 6, 8] (by decide) rfl), ?_⟩
          refine AL.done (by kernel_rfl) ?_
          refine bn (tn (WP.region (V rfl (ov_add rfl rfl rfl) (Vm rfl (WL.nil (tn ?_))))))
          exact ⟨(IntKind.wrap .i64 (i4 + 1)), (l12 ++ ([x11] : List Cell)), ao19, cap19, (xs14 ++ [(.int .u8 x11.first), (.int .u8 x11.second)]), l13, ao16, cap16, xs15, l14, ao17, cap17, xs16, l15, ao18, cap18, xs17, rl26, rl22, rl23, rl24, (Sub.all rfl), fun w' s => (s.select [1, 2, 3, 4, 5, 6, 7, 8] (by decide) rfl), hm⟩
         exact ALs.nil
        exact ALs.nil
       exact ALs.nil
      refine ALs.cons (i := 10) rfl (Runs.free rfl) rfl rfl ?_ ?_
      ·
       have rl25 : RL H encCell ([x11] : List Cell) [(.int .u8 x11.first), (.int .u8 x11.second)] := RL.cons (cs := [(.int .u8 x11.first), (.int .u8 x11.second)]) (xs := []) rfl (RL.nil _ _)
       refine os_buildSlice (cs := [(.int .u8 x11.first), (.int .u8 x11.second)]) (E := 80) (sz := 2) rfl rfl (fun _ => by kernel_rfl) rfl (by decide) (fun b7 => ?_)
       refine ⟨fun w' s => (s.select [1, 6, 8] (by decide) rfl), ?_⟩
       refine AL.any (rs := [5]) (by kernel_rfl) (by decide) ?_
       refine ALs.cons (i := 5) rfl (Runs.free rfl) rfl rfl ?_ ?_
       ·
        refine OQ.step (OV.quiet (ov_load_box (i := 7) isAgg78 rfl rfl rfl rfl)) ?_
        refine ⟨fun w' s => (s.select [1, 6, 8] (by decide) rfl), ?_⟩
        refine AL.any (rs := [11]) (by kernel_rfl) (by decide) ?_
        refine ALs.cons (i := 11) rfl (Runs.free rfl) rfl rfl ?_ ?_
        ·
         obtain ⟨l16, e21, hm⟩ := bind_some hm
         refine os_app (i := 5) (j := 0) (En := encCell) (xs := xs14) (ys := [(.int .u8 x11.first), (.int .u8 x11.second)]) underlying78 (by kernel_rfl : (prog.info? 80).map (fun i => (i.zero, i.size, i.bytes)) = some (some (.agg #[(.int .u8 0), (.int .u8 0)]), (encCell).size, 2)) rfl (by decide) rfl rfl rfl rfl rfl rfl rl21 rl25 e21 (fun ao19 cap19 rl26 => ?_)
         refine ⟨fun w' s => (s.select [1, 6, 8] (by decide) rfl), ?_⟩
         refine TQ 12 (by kernel_rfl) rfl (ov_indexAddr_bsl (j := 0) underlying76 sizeOf78 rfl rfl rfl (eq_of_beq hc8) rfl) ?_
         refine AL.any (rs := [13]) (by kernel_rfl) (by decide) ?_
         refine ALs.cons0 (i := 13) rfl (Runs.free rfl) rfl ?_ ?_
         ·
          refine os_store (i := 7) (vs := [(.slice ao19 (l12 ++ ([x11] : List Cell)).length cap19)]) (cs' := [(.slice ao19 (l12 ++ ([x11] : List Cell)).length cap19), (.slice ao16 l13.length cap16), (.slice ao17 l14.length cap17), (.slice ao18 l15.length cap18)]) sizeOf78 rfl rfl rfl rfl rfl rfl rfl rfl rfl ?_
          refine ⟨fun w' s => (s.select [1, 6, 8] (by decide) rfl), ?_⟩
          refine AL.done (by kernel_rfl) ?_
          refine bn (tn (WP.region (V rfl (ov_add rfl rfl rfl) (Vm rfl (WL.nil (tn ?_))))))
          exact ⟨(IntKind.wrap .i64 (i4 + 1)), (l12 ++ ([x11] : List Cell)), ao19, cap19, (xs14 ++ [(.int .u8 x11.first), (.int .u8 x11.second)]), l13, ao16, cap16, xs15, l14, ao17, cap17, xs16, l15, ao18, cap18, xs17, rl26, rl22, rl23, rl24, (Sub.all rfl), fun w' s => (s.select [1, 2, 3, 4, 5, 6, 7, 8] (by decide) rfl), hm⟩
         exact ALs.nil
        exact ALs.nil
       exact ALs.nil
      exact ALs.nil
     replace hm := ite_f hc8 hm
     rcases Bool.eq_false_or_eq_true (i4 == 1) with hc9 | hc9
     ·
      replace hm := ite_t hc9 hm
      refine TQ 4 (by kernel_rfl) rfl (ov_indexAddr_bsl (j := 1) underlying76 sizeOf78 rfl rfl rfl (eq_of_beq hc9) rfl) (TQ 6 (by kernel_rfl) rfl (ov_move rfl rfl) (TQ 7 (by kernel_rfl) rfl (ov_move rfl rfl) ?_))
      obtain ⟨x12, e22, hm⟩ := bind_some hm
      obtain ⟨h74, h75, h76, cs15, h77, h78⟩ := RL.get rl20 e22
      obtain rfl : cs15 = [(.int .u8 x12.first), (.int .u8 x12.second)] := h77
      refine TQ 8 (by kernel_rfl) rfl (ov_indexAddr_own (i := 0) underlying78 sizeOf80 rfl rfl rfl rfl h74 h75) (TQ 9 (by kernel_rfl) rfl (ov_load_owns (i := 0) (vs := [(.int .u8 x12.first), (.int .u8 x12.second)]) isAgg80 sizeOf80 rfl rfl rfl (own_pos h74 h75) rfl (fun j u hu => elem_cell h78 hu)) ?_)
      refine AL.any (rs := [5, 10]) (by kernel_rfl) (by decide) ?_
      refine ALs.cons (i := 5) rfl (Runs.free rfl) rfl rfl ?_ ?_
      ·
       refine OQ.step (OV.quiet (ov_load_box (i := 6) isAgg78 rfl rfl rfl rfl)) ?_
       refine ⟨fun w' s => (s.select [0, 5, 7] (by decide) rfl), ?_⟩
       refine AL.any (rs := [10]) (by kernel_rfl) (by decide) ?_
       refine ALs.cons (i := 10) rfl (Runs.free rfl) rfl rfl ?_ ?_
       ·
        have rl27 : RL H encCell ([x12] : List Cell) [(.int .u8 x12.first), (.int .u8 x12.second)] := RL.cons (cs := [(.int .u8 x12.first), (.int .u8 x12.second)]) (xs := []) rfl (RL.nil _ _)
        refine os_buildSlice (cs := [(.int .u8 x12.first), (.int .u8 x12.second)]) (E := 80) (sz := 2) rfl rfl (fun _ => by kernel_rfl) rfl (by decide) (fun b8 => ?_)
        refine ⟨fun w' s => (s.select [1, 6, 8] (by decide) rfl), ?_⟩
        refine AL.any (rs := [11]) (by kernel_rfl) (by decide) ?_
        refine ALs.cons (i := 11) rfl (Runs.free rfl) rfl rfl ?_ ?_
        ·
         obtain ⟨l17, e23, hm⟩ := bind_some hm
         refine os_app (i := 4) (j := 0) (En := encCell) (xs := xs15) (ys := [(.int .u8 x12.first), (.int .u8 x12.second)]) underlying78 (by kernel_rfl : (prog.info? 80).map (fun i => (i.zero, i.size, i.bytes)) = some (some (.agg #[(.int .u8 0), (.int .u8 0)]), (encCell).size, 2)) rfl (by decide) rfl rfl rfl rfl rfl rfl rl22 rl27 e23 (fun ao20 cap20 rl28 => ?_)
         refine ⟨fun w' s => (s.select [1, 6, 8] (by decide) rfl), ?_⟩
         refine TQ 12 (by kernel_rfl) rfl (ov_indexAddr_bsl (j := 1) underlying76 sizeOf78 rfl rfl rfl (eq_of_beq hc9) rfl) ?_
         refine AL.any (rs := [13]) (by kernel_rfl) (by decide) ?_
         refine ALs.cons0 (i := 13) rfl (Runs.free rfl) rfl ?_ ?_
         ·
          refine os_store (i := 7) (vs := [(.slice ao20 (l13 ++ ([x12] : List Cell)).length cap20)]) (cs' := [(.slice ao15 l12.length cap15), (.slice ao20 (l13 ++ ([x12] : List Cell)).length cap20), (.slice ao17 l14.length cap17), (.slice ao18 l15.length cap18)]) sizeOf78 rfl rfl rfl rfl rfl rfl rfl rfl rfl ?_
          refine ⟨fun w' s => (s.select [1, 6, 8] (by decide) rfl), ?_⟩
          refine AL.done (by kernel_rfl) ?_
          refine bn (tn (WP.region (V rfl (ov_add rfl rfl rfl) (Vm rfl (WL.nil (tn ?_))))))
          exact ⟨(IntKind.wrap .i64 (i4 + 1)), l12, ao15, cap15, xs14, (l13 ++ ([x12] : List Cell)), ao20, cap20, (xs15 ++ [(.int .u8 x12.first), (.int .u8 x12.second)]), l14, ao17, cap17, xs16, l15, ao18, cap18, xs17, rl21, rl28, rl23, rl24, (Sub.all rfl), fun w' s => (s.select [1, 2, 3, 4, 5, 6, 7, 8] (by decide) rfl), hm⟩
         exact ALs.nil
        exact ALs.nil
       exact ALs.nil
      refine ALs.cons (i := 10) rfl (Runs.free rfl) rfl rfl ?_ ?_
      ·
       have rl27 : RL H encCell ([x12] : List Cell) [(.int .u8 x12.first), (.int .u8 x12.second)] := RL.cons (cs := [(.int .u8 x12.first), (.int .u8 x12.second)]) (xs := []) rfl (RL.nil _ _)
       refine os_buildSlice (cs := [(.int .u8 x12.first), (.int .u8 x12.second)]) (E := 80) (sz := 2) rfl rfl (fun _ => by kernel_rfl) rfl (by decide) (fun b8 => ?_)
       refine ⟨fun w' s => (s.select [1, 6, 8] (by decide) rfl), ?_⟩
       refine AL.any (rs := [5]) (by kernel_rfl) (by decide) ?_
       refine ALs.cons (i := 5) rfl (Runs.free rfl) rfl rfl ?_ ?_
       ·
        refine OQ.step (OV.quiet (ov_load_box (i := 7) isAgg78 rfl rfl rfl rfl)) ?_
        refine ⟨fun w' s => (s.select [1, 6, 8] (by decide) rfl), ?_⟩
        refine AL.any (rs := [11]) (by kernel_rfl) (by decide) ?_
        refine ALs.cons (i := 11) rfl (Runs.free rfl) rfl rfl ?_ ?_
        ·
         obtain ⟨l17, e23, hm⟩ := bind_some hm
         refine os_app (i := 4) (j := 0) (En := encCell) (xs := xs15) (ys := [(.int .u8 x12.first), (.int .u8 x12.second)]) underlying78 (by kernel_rfl : (prog.info? 80).map (fun i => (i.zero, i.size, i.bytes)) = some (some (.agg #[(.int .u8 0), (.int .u8 0)]), (encCell).size, 2)) rfl (by decide) rfl rfl rfl rfl rfl rfl rl22 rl27 e23 (fun ao20 cap20 rl28 => ?_)
         refine ⟨fun w' s => (s.select [1, 6, 8] (by decide) rfl), ?_⟩
         refine TQ 12 (by kernel_rfl) rfl (ov_indexAddr_bsl (j := 1) underlying76 sizeOf78 rfl rfl rfl (eq_of_beq hc9) rfl) ?_
         refine AL.any (rs := [13]) (by kernel_rfl) (by decide) ?_
         refine ALs.cons0 (i := 13) rfl (Runs.free rfl) rfl ?_ ?_
         ·
          refine os_store (i := 7) (vs := [(.slice ao20 (l13 ++ ([x12] : List Cell)).length cap20)]) (cs' := [(.slice ao15 l12.length cap15), (.slice ao20 (l13 ++ ([x12] : List Cell)).length cap20), (.slice ao17 l14.length cap17), (.slice ao18 l15.length cap18)]) sizeOf78 rfl rfl rfl rfl rfl rfl rfl rfl rfl ?_
          refine ⟨fun w' s => (s.select [1, 6, 8] (by decide) rfl), ?_⟩
          refine AL.done (by kernel_rfl) ?_
          refine bn (tn (WP.region (V rfl (ov_add rfl rfl rfl) (Vm rfl (WL.nil (tn ?_))))))
          exact ⟨(IntKind.wrap .i64 (i4 + 1)), l12, ao15, cap15, xs14, (l13 ++ ([x12] : List Cell)), ao20, cap20, (xs15 ++ [(.int .u8 x12.first), (.int .u8 x12.second)]), l14, ao17, cap17, xs16, l15, ao18, cap18, xs17, rl21, rl28, rl23, rl24, (Sub.all rfl), fun w' s => (s.select [1, 2, 3, 4, 5, 6, 7, 8] (by decide) rfl), hm⟩
         exact ALs.nil
        exact ALs.nil
       exact ALs.nil
      exact ALs.nil
     replace hm := ite_f hc9 hm
     rcases Bool.eq_false_or_eq_true (i4 == 2) with hc10 | hc10
     ·
      replace hm := ite_t hc10 hm
      refine TQ 4 (by kernel_rfl) rfl (ov_indexAddr_bsl (j := 2) underlying76 sizeOf78 rfl rfl rfl (eq_of_beq hc10) rfl) (TQ 6 (by kernel_rfl) rfl (ov_move rfl rfl) (TQ 7 (by kernel_rfl) rfl (ov_move rfl rfl) ?_))
      obtain ⟨x13, e24, hm⟩ := bind_some hm
      obtain ⟨h79, h80, h81, cs16, h82, h83⟩ := RL.get rl20 e24
      obtain rfl : cs16 = [(.int .u8 x13.first), (.int .u8 x13.second)] := h82
      refine TQ 8 (by kernel_rfl) rfl (ov_indexAddr_own (i := 0) underlying78 sizeOf80 rfl rfl rfl rfl h79 h80) (TQ 9 (by kernel_rfl) rfl (ov_load_owns (i := 0) (vs := [(.int .u8 x13.first), (.int .u8 x13.second)]) isAgg80 sizeOf80 rfl rfl rfl (own_pos h79 h80) rfl (fun j u hu => elem_cell h83 hu)) ?_)
      refine AL.any (rs := [5, 10]) (by kernel_rfl) (by decide) ?_
      refine ALs.cons (i := 5) rfl (Runs.free rfl) rfl rfl ?_ ?_
      ·
       refine OQ.step (OV.quiet (ov_load_box (i := 6) isAgg78 rfl rfl rfl rfl)) ?_
       refine ⟨fun w' s => (s.select [0, 5, 7] (by decide) rfl), ?_⟩
       refine AL.any (rs := [10]) (by kernel_rfl) (by decide) ?_
       refine ALs.cons (i := 10) rfl (Runs.free rfl) rfl rfl ?_ ?_
       ·
        have rl29 : RL H encCell ([x13] : List Cell) [(.int .u8 x13.first), (.int .u8 x13.second)] := RL.cons (cs := [(.int .u8 x13.first), (.int .u8 x13.second)]) (xs := []) rfl (RL.nil _ _)
        refine os_buildSlice (cs := [(.int .u8 x13.first), (.int .u8 x13.second)]) (E := 80) (sz := 2) rfl rfl (fun _ => by kernel_rfl) rfl (by decide) (fun b9 => ?_)
        refine ⟨fun w' s => (s.select [1, 6, 8] (by decide) rfl), ?_⟩
        refine AL.any (rs := [11]) (by kernel_rfl) (by decide) ?_
        refine ALs.cons (i := 11) rfl (Runs.free rfl) rfl rfl ?_ ?_
        ·
         obtain ⟨l18, e25, hm⟩ := bind_some hm
         refine os_app (i := 3) (j := 0) (En := encCell) (xs := xs16) (ys := [(.int .u8 x13.first), (.int .u8 x13.second)]) underlying78 (by kernel_rfl : (prog.info? 80).map (fun i => (i.zero, i.size, i.bytes)) = some (some (.agg #[(.int .u8 0), (.int .u8 0)]), (encCell).size, 2)) rfl (by decide) rfl rfl rfl rfl rfl rfl rl23 rl29 e25 (fun ao21 cap21 rl30 => ?_)
         refine ⟨fun w' s => (s.select [1, 6, 8] (by decide) rfl), ?_⟩
         refine TQ 12 (by kernel_rfl) rfl (ov_indexAddr_bsl (j := 2) underlying76 sizeOf78 rfl rfl rfl (eq_of_beq hc10) rfl) ?_
         refine AL.any (rs := [13]) (by kernel_rfl) (by decide) ?_
         refine ALs.cons0 (i := 13) rfl (Runs.free rfl) rfl ?_ ?_
         ·
          refine os_store (i := 7) (vs := [(.slice ao21 (l14 ++ ([x13] : List Cell)).length cap21)]) (cs' := [(.slice ao15 l12.length cap15), (.slice ao16 l13.length cap16), (.slice ao21 (l14 ++ ([x13] : List Cell)).length cap21), (.slice ao18 l15.length cap18)]) sizeOf78 rfl rfl rfl rfl rfl rfl rfl rfl rfl ?_
          refine ⟨fun w' s => (s.select [1, 6, 8] (by decide) rfl), ?_⟩
          refine AL.done (by kernel_rfl) ?_
          refine bn (tn (WP.region (V rfl (ov_add rfl rfl rfl) (Vm rfl (WL.nil (tn ?_))))))
          exact ⟨(IntKind.wrap .i64 (i4 + 1)), l12, ao15, cap15, xs14, l13, ao16, cap16, xs15, (l14 ++ ([x13] : List Cell)), ao21, cap21, (xs16 ++ [(.int .u8 x13.first), (.int .u8 x13.second)]), l15, ao18, cap18, xs17, rl21, rl22, rl30, rl24, (Sub.all rfl), fun w' s => (s.select [1, 2, 3, 4, 5, 6, 7, 8] (by decide) rfl), hm⟩
         exact ALs.nil
        exact ALs.nil
       exact ALs.nil
      refine ALs.cons (i := 10) rfl (Runs.free rfl) rfl rfl ?_ ?_
      ·
       have rl29 : RL H encCell ([x13] : List Cell) [(.int .u8 x13.first), (.int .u8 x13.second)] := RL.cons (cs := [(.int .u8 x13.first), (.int .u8 x13.second)]) (xs := []) rfl (RL.nil _ _)
       refine os_buildSlice (cs := [(.int .u8 x13.first), (.int .u8 x13.second)]) (E := 80) (sz := 2) rfl rfl (fun _ => by kernel_rfl) rfl (by decide) (fun b9 => ?_)
       refine ⟨fun w' s => (s.select [1, 6, 8] (by decide) rfl), ?_⟩
       refine AL.any (rs := [5]) (by kernel_rfl) (by decide) ?_
       refine ALs.cons (i := 5) rfl (Runs.free rfl) rfl rfl ?_ ?_
       ·
        refine OQ.step (OV.quiet (ov_load_box (i := 7) isAgg78 rfl rfl rfl rfl)) ?_
        refine ⟨fun w' s => (s.select [1, 6, 8] (by decide) rfl), ?_⟩
        refine AL.any (rs := [11]) (by kernel_rfl) (by decide) ?_
        refine ALs.cons (i := 11) rfl (Runs.free rfl) rfl rfl ?_ ?_
        ·
         obtain ⟨l18, e25, hm⟩ := bind_some hm
         refine os_app (i := 3) (j := 0) (En := encCell) (xs := xs16) (ys := [(.int .u8 x13.first), (.int .u8 x13.second)]) underlying78 (by kernel_rfl : (prog.info? 80).map (fun i => (i.zero, i.size, i.bytes)) = some (some (.agg #[(.int .u8 0), (.int .u8 0)]), (encCell).size, 2)) rfl (by decide) rfl rfl rfl rfl rfl rfl rl23 rl29 e25 (fun ao21 cap21 rl30 => ?_)
         refine ⟨fun w' s => (s.select [1, 6, 8] (by decide) rfl), ?_⟩
         refine TQ 12 (by kernel_rfl) rfl (ov_indexAddr_bsl (j := 2) underlying76 sizeOf78 rfl rfl rfl (eq_of_beq hc10) rfl) ?_
         refine AL.any (rs := [13]) (by kernel_rfl) (by decide) ?_
         refine ALs.cons0 (i := 13) rfl (Runs.free rfl) rfl ?_ ?_
         ·
          refine os_store (i := 7) (vs := [(.slice ao21 (l14 ++ ([x13] : List Cell)).length cap21)]) (cs' := [(.slice ao15 l12.length cap15), (.slice ao16 l13.length cap16), (.slice ao21 (l14 ++ ([x13] : List Cell)).length cap21), (.slice ao18 l15.length cap18)]) sizeOf78 rfl rfl rfl rfl rfl rfl rfl rfl rfl ?_
          refine ⟨fun w' s => (s.select [1, 6, 8] (by decide) rfl), ?_⟩
          refine AL.done (by kernel_rfl) ?_
          refine bn (tn (WP.region (V rfl (ov_add rfl rfl rfl) (Vm rfl (WL.nil (tn ?_))))))
          exact ⟨(IntKind.wrap .i64 (i4 + 1)), l12, ao15, cap15, xs14, l13, ao16, cap16, xs15, (l14 ++ ([x13] : List Cell)), ao21, cap21, (xs16 ++ [(.int .u8 x13.first), (.int .u8 x13.second)]), l15, ao18, cap18, xs17, rl21, rl22, rl30, rl24, (Sub.all rfl), fun w' s => (s.select [1, 2, 3, 4, 5, 6, 7, 8] (by decide) rfl), hm⟩
         exact ALs.nil
        exact ALs.nil
       exact ALs.nil
      exact ALs.nil
     replace hm := ite_f hc10 hm
     rcases Bool.eq_false_or_eq_true (i4 == 3) with hc11 | hc11
     ·
      replace hm := ite_t hc11 hm
      refine TQ 4 (by kernel_rfl) rfl (ov_indexAddr_bsl (j := 3) underlying76 sizeOf78 rfl rfl rfl (eq_of_beq hc11) rfl) (TQ 6 (by kernel_rfl) rfl (ov_move rfl rfl) (TQ 7 (by kernel_rfl) rfl (ov_move rfl rfl) ?_))
      obtain ⟨x14, e26, hm⟩ := bind_some hm
      obtain ⟨h84, h85, h86, cs17, h87, h88⟩ := RL.get rl20 e26
      obtain rfl : cs17 = [(.int .u8 x14.first), (.int .u8 x14.second)] := h87
      refine TQ 8 (by kernel_rfl) rfl (ov_indexAddr_own (i := 0) underlying78 sizeOf80 rfl rfl rfl rfl h84 h85) (TQ 9 (by kernel_rfl) rfl (ov_load_owns (i := 0) (vs := [(.int .u8 x14.first), (.int .u8 x14.second)]) isAgg80 sizeOf80 rfl rfl rfl (own_pos h84 h85) rfl (fun j u hu => elem_cell h88 hu)) ?_)
      refine AL.any (rs := [5, 10]) (by kernel_rfl) (by decide) ?_
      refine ALs.cons (i := 5) rfl (Runs.free rfl) rfl rfl ?_ ?_
      ·
       refine OQ.step (OV.quiet (ov_load_box (i := 6) isAgg78 rfl rfl rfl rfl)) ?_
       refine ⟨fun w' s => (s.select [0, 5, 7] (by decide) rfl), ?_⟩
       refine AL.any (rs := [10]) (by kernel_rfl) (by decide) ?_
       refine ALs.cons (i := 10) rfl (Runs.free rfl) rfl rfl ?_ ?_
       ·
        have rl31 : RL H encCell ([x14] : List Cell) [(.int .u8 x14.first), (.int .u8 x14.second)] := RL.cons (cs := [(.int .u8 x14.first), (.int .u8 x14.second)]) (xs := []) rfl (RL.nil _ _)
        refine os_buildSlice (cs := [(.int .u8 x14.first), (.int .u8 x14.second)]) (E := 80) (sz := 2) rfl rfl (fun _ => by kernel_rfl) rfl (by decide) (fun b10 => ?_)
        refine ⟨fun w' s => (s.select [1, 6, 8] (by decide) rfl), ?_⟩
        refine AL.any (rs := [11]) (by kernel_rfl) (by decide) ?_
        refine ALs.cons (i := 11) rfl (Runs.free rfl) rfl rfl ?_ ?_
        ·
         obtain ⟨l19, e27, hm⟩ := bind_some hm
         refine os_app (i := 2) (j := 0) (En := encCell) (xs := xs17) (ys := [(.int .u8 x14.first), (.int .u8 x14.second)]) underlying78 (by kernel_rfl : (prog.info? 80).map (fun i => (i.zero, i.size, i.bytes)) = some (some (.agg #[(.int .u8 0), (.int .u8 0)]), (encCell).size, 2)) rfl (by decide) rfl rfl rfl rfl rfl rfl rl24 rl31 e27 (fun ao22 cap22 rl32 => ?_)
         refine ⟨fun w' s => (s.select [1, 6, 8] (by decide) rfl), ?_⟩
         refine TQ 12 (by kernel_rfl) rfl (ov_indexAddr_bsl (j := 3) underlying76 sizeOf78 rfl rfl rfl (eq_of_beq hc11) rfl) ?_
         refine AL.any (rs := [13]) (by kernel_rfl) (by decide) ?_
         refine ALs.cons0 (i := 13) rfl (Runs.free rfl) rfl ?_ ?_
         ·
          refine os_store (i := 7) (vs := [(.slice ao22 (l15 ++ ([x14] : List Cell)).length cap22)]) (cs' := [(.slice ao15 l12.length cap15), (.slice ao16 l13.length cap16), (.slice ao17 l14.length cap17), (.slice ao22 (l15 ++ ([x14] : List Cell)).length cap22)]) sizeOf78 rfl rfl rfl rfl rfl rfl rfl rfl rfl ?_
          refine ⟨fun w' s => (s.select [1, 6, 8] (by decide) rfl), ?_⟩
          refine AL.done (by kernel_rfl) ?_
          refine bn (tn (WP.region (V rfl (ov_add rfl rfl rfl) (Vm rfl (WL.nil (tn ?_))))))
          exact ⟨(IntKind.wrap .i64 (i4 + 1)), l12, ao15, cap15, xs14, l13, ao16, cap16, xs15, l14, ao17, cap17, xs16, (l15 ++ ([x14] : List Cell)), ao22, cap22, (xs17 ++ [(.int .u8 x14.first), (.int .u8 x14.second)]), rl21, rl22, rl23, rl32, (Sub.all rfl), fun w' s => (s.select [1, 2, 3, 4, 5, 6, 7, 8] (by decide) rfl), hm⟩
         exact ALs.nil
        exact ALs.nil
       exact ALs.nil
      refine ALs.cons (i := 10) rfl (Runs.free rfl) rfl rfl ?_ ?_
      ·
       have rl31 : RL H encCell ([x14] : List Cell) [(.int .u8 x14.first), (.int .u8 x14.second)] := RL.cons (cs := [(.int .u8 x14.first), (.int .u8 x14.second)]) (xs := []) rfl (RL.nil _ _)
       refine os_buildSlice (cs := [(.int .u8 x14.first), (.int .u8 x14.second)]) (E := 80) (sz := 2) rfl rfl (fun _ => by kernel_rfl) rfl (by decide) (fun b10 => ?_)
       refine ⟨fun w' s => (s.select [1, 6, 8] (by decide) rfl), ?_⟩
       refine AL.any (rs := [5]) (by kernel_rfl) (by decide) ?_
       refine ALs.cons (i := 5) rfl (Runs.free rfl) rfl rfl ?_ ?_
       ·
        refine OQ.step (OV.quiet (ov_load_box (i := 7) isAgg78 rfl rfl rfl rfl)) ?_
        refine ⟨fun w' s => (s.select [1, 6, 8] (by decide) rfl), ?_⟩
        refine AL.any (rs := [11]) (by kernel_rfl) (by decide) ?_
        refine ALs.cons (i := 11) rfl (Runs.free rfl) rfl rfl ?_ ?_
        ·
         obtain ⟨l19, e27, hm⟩ := bind_some hm
         refine os_app (i := 2) (j := 0) (En := encCell) (xs := xs17) (ys := [(.int .u8 x14.first), (.int .u8 x14.second)]) underlying78 (by kernel_rfl : (prog.info? 80).map (fun i => (i.zero, i.size, i.bytes)) = some (some (.agg #[(.int .u8 0), (.int .u8 0)]), (encCell).size, 2)) rfl (by decide) rfl rfl rfl rfl rfl rfl rl24 rl31 e27 (fun ao22 cap22 rl32 => ?_)
         refine ⟨fun w' s => (s.select [1, 6, 8] (by decide) rfl), ?_⟩
         refine TQ 12 (by kernel_rfl) rfl (ov_indexAddr_bsl (j := 3) underlying76 sizeOf78 rfl rfl rfl (eq_of_beq hc11) rfl) ?_
         refine AL.any (rs := [13]) (by kernel_rfl) (by decide) ?_
         refine ALs.cons0 (i := 13) rfl (Runs.free rfl) rfl ?_ ?_
         ·
          refine os_store (i := 7) (vs := [(.slice ao22 (l15 ++ ([x14] : List Cell)).length cap22)]) (cs' := [(.slice ao15 l12.length cap15), (.slice ao16 l13.length cap16), (.slice ao17 l14.length cap17), (.slice ao22 (l15 ++ ([x14] : List Cell)).length cap22)]) sizeOf78 rfl rfl rfl rfl rfl rfl rfl rfl rfl ?_
          refine ⟨fun w' s => (s.select [1, 6, 8] (by decide) rfl), ?_⟩
          refine AL.done (by kernel_rfl) ?_
          refine bn (tn (WP.region (V rfl (ov_add rfl rfl rfl) (Vm rfl (WL.nil (tn ?_))))))
          exact ⟨(IntKind.wrap .i64 (i4 + 1)), l12, ao15, cap15, xs14, l13, ao16, cap16, xs15, l14, ao17, cap17, xs16, (l15 ++ ([x14] : List Cell)), ao22, cap22, (xs17 ++ [(.int .u8 x14.first), (.int .u8 x14.second)]), rl21, rl22, rl23, rl32, (Sub.all rfl), fun w' s => (s.select [1, 2, 3, 4, 5, 6, 7, 8] (by decide) rfl), hm⟩
         exact ALs.nil
        exact ALs.nil
       exact ALs.nil
      exact ALs.nil
     replace hm := ite_f hc11 hm
     exact (none_some hm).elim
    replace hm := ite_f hc7 hm
    refine WP.exit (then_exit (then_exit (block_here (bn (tn ?_)))))
    exact ⟨l10, ao13, cap13, xs12, l12, ao15, cap15, xs14, l13, ao16, cap16, xs15, l14, ao17, cap17, xs16, l15, ao18, cap18, xs17, rl19, rl21, rl22, rl23, rl24, (Sub.all rfl), fun w' s => (s.select [1, 2, 3, 4, 5, 6, 7] (by decide) rfl), hm⟩
   rintro g' S' ⟨l20, ao23, cap23, xs18, l21, ao24, cap24, xs19, l22, ao25, cap25, xs20, l23, ao26, cap26, xs21, l24, ao27, cap27, xs22, rl33, rl34, rl35, rl36, rl37, hsub7, hS7, hm⟩
   refine WP.sub hsub7 (WP.weaken hS7 ?_)
   replace hm := (congrFun (congrFun (congrFun (congrFun (congrFun hk2 l20) l21) l22) l23) l24).symm.trans hm
   refine WP.region (V rfl (ov_add rfl rfl rfl) (Vm rfl (WL.nil (tn ?_))))
   exact ⟨(IntKind.wrap .i64 (i1 + 1)), l20, ao23, cap23, xs18, l21, ao24, cap24, xs19, l22, ao25, cap25, xs20, l23, ao26, cap26, xs21, l24, ao27, cap27, xs22, rl33, rl34, rl35, rl36, rl37, (Sub.all rfl), fun w' s => s, hm⟩
  replace hm := ite_f hc3 hm
  refine WP.exit (then_exit (then_exit (block_here (tn ?_))))
  exact ⟨l2, ao4, cap4, xs3, l3, ao5, cap5, xs4, l4, ao6, cap6, xs5, l5, ao7, cap7, xs6, rl7, rl8, rl9, rl10, (Sub.all rfl), fun w' s => (s.select [0, 1, 2, 3, 5] (by decide) rfl), hm⟩
 rintro g' S' ⟨l25, ao28, cap28, xs23, l26, ao29, cap29, xs24, l27, ao30, cap30, xs25, l28, ao31, cap31, xs26, rl38, rl39, rl40, rl41, hsub8, hS8, hm⟩
 refine WP.sub hsub8 (WP.weaken hS8 ?_)
 replace hm := (congrFun (congrFun (congrFun (congrFun hk1 l25) l26) l27) l28).symm.trans hm
 refine WP.seq (WP.region (Vm rfl ?_))
 refine WL.weaken (fun _ s => s.select [3, 0, 1, 2, 4] (by decide) rfl) ?_
 refine WL.held rl38 (fun H1 hc12 hle1 h89 => ?_)
 replace rl41 := rl41.mono hle1
 replace rl40 := rl40.mono hle1
 replace rl39 := rl39.mono hle1
 refine WL.weaken (fun _ s => s.select [2, 0, 1, 3] (by decide) rfl) ?_
 refine WL.held rl39 (fun H2 hc13 hle2 h90 => ?_)
 replace rl41 := rl41.mono hle2
 replace rl40 := rl40.mono hle2
 replace h89 := h89.mono hle2
 refine WL.weaken (fun _ s => s.select [1, 0, 2] (by decide) rfl) ?_
 refine WL.held rl40 (fun H3 hc14 hle3 h91 => ?_)
 replace rl41 := rl41.mono hle3
 replace h89 := h89.mono hle3
 replace h90 := h90.mono hle3
 refine WL.held rl41 (fun H4 hc15 hle4 h92 => ?_)
 replace h89 := h89.mono hle4
 replace h90 := h90.mono hle4
 replace h91 := h91.mono hle4
 have rl42 : RL H4 (encSl encCell) ([l25, l26, l27, l28] : List (List Cell)) [(.slice ao28 l25.length cap28), (.slice ao29 l26.length cap29), (.slice ao30 l27.length cap30), (.slice ao31 l28.length cap31)] := RL.cons (cs := [(.slice ao28 l25.length cap28)]) (xs := [(.slice ao29 l26.length cap29), (.slice ao30 l27.length cap30), (.slice ao31 l28.length cap31)]) ⟨ao28, cap28, rfl, h89, hc12⟩ (RL.cons (cs := [(.slice ao29 l26.length cap29)]) (xs := [(.slice ao30 l27.length cap30), (.slice ao31 l28.length cap31)]) ⟨ao29, cap29, rfl, h90, hc13⟩ (RL.cons (cs := [(.slice ao30 l27.length cap30)]) (xs := [(.slice ao31 l28.length cap31)]) ⟨ao30, cap30, rfl, h91, hc14⟩ (RL.cons (cs := [(.slice ao31 l28.length cap31)]) (xs := []) ⟨ao31, cap31, rfl, h92, hc15⟩ (RL.nil _ _))))
 refine WL.weaken (fun _ s => s.blk_rowN (N := 4) (sz := 1) rfl (by decide)) ?_
 refine Va rfl (WL.nil (tn (WP.ret ?_)))
 obtain rfl := Option.some.inj hm
 refine retQ_ret results43 (Res.tmp rfl Res.nil) rfl (fun w' s => ⟨s.below, ?_⟩)
 obtain ⟨h93, hc16⟩ := s.ret_row (i := 0) rfl rl42
 exact ⟨(some ⟨b2, 0, none⟩), 4, rfl, h93, hc16⟩
end Go.Proofs.YtbckcjjffbgidaaGreatDoor.W
