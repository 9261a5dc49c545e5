/- The walks. Written by our own program gen.py; Lean checks it. -/
import Derived.Test.YtbckcjjffbgidaaGreatDoorPlain
import Derived.Test.YtbckcjjffbgidaaGreatDoorEqs
import Derived.Test.YtbckcjjffbgidaaGreatDoorProg
import Derived.Test.YtbckcjjffbgidaaGreatDoorExt
import Derived.Test.YtbckcjjffbgidaaGreatDoorBuild
import Derived.Test.YtbckcjjffbgidaaGreatDoorClone
import Derived.Test.YtbckcjjffbgidaaGreatDoorWalk0
import Derived.Test.YtbckcjjffbgidaaGreatDoorWalk1
set_option linter.unusedVariables false
set_option maxRecDepth 100000
set_option maxHeartbeats 4000000
namespace Go.Proofs.YtbckcjjffbgidaaGreatDoor.W
open Go Go.RowKit Go.Proofs.Tryz
theorem diagram_cells6_con (p_s : Sequence) (ao1 : Option Addr) (cap1 : Nat) (w : World) (H : Heap) (hH : Le H (hp w)) (h1 : SL H encStep ao1 p_s.steps) (hc1 : p_s.steps.length ≤ cap1) (hG : Glob H) (hn : (p_s.actuators == 6) = true) (r : (List (List Cell))) (hm : diagram_cells6 p_s = some r) :
  Con prog 43 [(.agg #[(.int .i64 p_s.actuators), (.slice ao1 p_s.steps.length cap1)])] w H (fun v H' => ∃ (ao2 : Option Addr) (cap2 : Nat), v = (.slice ao2 r.length cap2) ∧ SL H' (encSl encCell) ao2 r ∧ r.length ≤ cap2) := by
 unfold diagram_cells6 at hm
 refine con_of hH func43 rfl 99 ntmps43 rfl ?_
 refine WP.seq (WP.region ?_)
 refine ws rfl (os_box (cs := [(.int .i64 p_s.actuators), (.slice ao1 p_s.steps.length cap1)]) rfl rfl rfl (fun b1 => ?_))
 refine Va rfl (WL.nil (tn (WP.seq (WP.region (V rfl (ov_fieldAddr underlying24 rfl rfl rfl sizeOf3 rfl rfl) (Vl 0 isAgg3 rfl ?_))))))
 refine ws rfl (os_makeSlice_n (N := 6) (sz := 1) (bytes := 24) (z := (.slice none 0 0)) (cs := [(.slice none 0 0), (.slice none 0 0), (.slice none 0 0), (.slice none 0 0), (.slice none 0 0), (.slice none 0 0)]) underlying76 (by kernel_rfl) (by kernel_rfl) rfl rfl rfl (eq_of_beq hn) (by decide) (by decide) (fun b2 => ?_))
 refine Va rfl (WL.nil (tn (WP.seq (WP.region (V rfl (ov_fieldAddr underlying24 rfl rfl rfl sizeOf3 rfl rfl) (Vl 1 isAgg3 rfl ?_))))))
 obtain ⟨u1, e1, hm⟩ := bind_some hm
 replace e1 := guardO_some e1
 refine ws rfl (os_makeSlice (En := encBool) (z := (.bool false)) (y0 := false) (bytes := 1) underlying49 (by kernel_rfl) rfl (by decide) rfl rfl rfl e1 (fun b3 xs1 rl1 => ?_))
 refine Va rfl (WL.nil (tn ?_))
 obtain ⟨k1, hk1, hm⟩ := joinK_some hm
 refine WP.seq_join (fun g' S' => ∃ (l33 : (List Cell)) (ao36 : _) (cap36 : _) (xs29 : _) (l34 : (List Cell)) (ao37 : _) (cap37 : _) (xs30 : _) (l35 : (List Cell)) (ao38 : _) (cap38 : _) (xs31 : _) (l36 : (List Cell)) (ao39 : _) (cap39 : _) (xs32 : _) (l37 : (List Cell)) (ao40 : _) (cap40 : _) (xs33 : _) (l38 : (List Cell)) (ao41 : _) (cap41 : _) (xs34 : _), RL H encCell l33 xs29 ∧ RL H encCell l34 xs30 ∧ RL H encCell l35 xs31 ∧ RL H encCell l36 xs32 ∧ RL H encCell l37 xs33 ∧ RL H encCell l38 xs34 ∧ Sub [(3, (.slice (some ⟨b2, 0, none⟩) 6 6)), (1000000007, (.bool false))] g' ∧ (∀ w', S' w' → St w H [rowE 80 encCell l38 ao41 cap41 xs34, rowE 80 encCell l37 ao40 cap40 xs33, rowE 80 encCell l36 ao39 cap39 xs32, rowE 80 encCell l35 ao38 cap38 xs31, rowE 80 encCell l34 ao37 cap37 xs30, rowE 80 encCell l33 ao36 cap36 xs29, .blk b2 78 [(.slice ao36 l33.length cap36), (.slice ao37 l34.length cap37), (.slice ao38 l35.length cap38), (.slice ao39 l36.length cap39), (.slice ao40 l37.length cap40), (.slice ao41 l38.length cap41)]] H w') ∧ k1 l33 l34 l35 l36 l37 l38 = some r) ?_ ?_
 ·
  refine WP.seq (WP.region (V rfl (ov_fieldAddr underlying24 rfl rfl rfl sizeOf22 rfl rfl) (Vl 2 isAgg22 rfl (V rfl (ov_len_slice underlying22 rfl rfl) (Vm rfl (WL.nil (tn (WP.block ?_))))))))
  have rl2 := RL.nil (α := Cell) H encCell
  refine WP.weaken (fun _ s => s.nilrow 80 (encCell).size) ?_
  have rl3 := RL.nil (α := Cell) H encCell
  refine WP.weaken (fun _ s => s.nilrow 80 (encCell).size) ?_
  have rl4 := RL.nil (α := Cell) H encCell
  refine WP.weaken (fun _ s => s.nilrow 80 (encCell).size) ?_
  have rl5 := RL.nil (α := Cell) H encCell
  refine WP.weaken (fun _ s => s.nilrow 80 (encCell).size) ?_
  have rl6 := RL.nil (α := Cell) H encCell
  refine WP.weaken (fun _ s => s.nilrow 80 (encCell).size) ?_
  have rl7 := RL.nil (α := Cell) H encCell
  refine WP.weaken (fun _ s => s.nilrow 80 (encCell).size) ?_
  refine WP.loop (fun m1 g' S' => ∃ (i1 : Int) (l1 : (List Bool)) (ao3 : _) (cap3 : _) (xs2 : _) (l2 : (List Cell)) (ao4 : _) (cap4 : _) (xs3 : _) (l3 : (List Cell)) (ao5 : _) (cap5 : _) (xs4 : _) (l4 : (List Cell)) (ao6 : _) (cap6 : _) (xs5 : _) (l5 : (List Cell)) (ao7 : _) (cap7 : _) (xs6 : _) (l6 : (List Cell)) (ao8 : _) (cap8 : _) (xs7 : _) (l7 : (List Cell)) (ao9 : _) (cap9 : _) (xs8 : _), RL H encBool l1 xs2 ∧ RL H encCell l2 xs3 ∧ RL H encCell l3 xs4 ∧ RL H encCell l4 xs5 ∧ RL H encCell l5 xs6 ∧ RL H encCell l6 xs7 ∧ RL H encCell l7 xs8 ∧ Sub [(1, (pB b1 0)), (3, (.slice (some ⟨b2, 0, none⟩) 6 6)), (4, (.slice ao3 l1.length cap3)), (20, (.slice ao1 p_s.steps.length cap1)), (21, (.int .i64 (p_s.steps.length : Int))), (22, (.int .i64 i1)), (1000000007, (.bool false))] g' ∧ (∀ w', S' w' → St w H [rowE 80 encCell l7 ao9 cap9 xs8, rowE 80 encCell l6 ao8 cap8 xs7, rowE 80 encCell l5 ao7 cap7 xs6, rowE 80 encCell l4 ao6 cap6 xs5, rowE 80 encCell l3 ao5 cap5 xs4, rowE 80 encCell l2 ao4 cap4 xs3, rowE 4 encBool l1 ao3 cap3 xs2, .blk b2 78 [(.slice ao4 l2.length cap4), (.slice ao5 l3.length cap5), (.slice ao6 l4.length cap6), (.slice ao7 l5.length cap7), (.slice ao8 l6.length cap8), (.slice ao9 l7.length cap9)], .blk b1 24 [(.int .i64 p_s.actuators), (.slice ao1 p_s.steps.length cap1)]] H w') ∧ diagram_cells6_loop1 p_s k1 m1 i1 l1 l2 l3 l4 l5 l6 l7 = some r) ((Int.toNat ((p_s.steps.length : Int) - 0) + 1)) ⟨0, (List.replicate (Int.toNat p_s.actuators) false), (some ⟨b3, 0, none⟩), (Int.toNat p_s.actuators), xs1, ([] : List Cell), none, 0, [], ([] : List Cell), none, 0, [], ([] : List Cell), none, 0, [], ([] : List Cell), none, 0, [], ([] : List Cell), none, 0, [], ([] : List Cell), none, 0, [], rl1, rl2, rl3, rl4, rl5, rl6, rl7, (Sub.all rfl), fun w' s => s, hm⟩ ?_ ?_
  ·
   rintro g' S' ⟨_, _, _, _, _, _, _, _, _, _, _, _, _, _, _, _, _, _, _, _, _, _, _, _, _, _, _, _, _, _, _, _, _, _, _, _, _, _, hm⟩
   exact none_some hm
  rintro m1 g' S' ⟨i1, l1, ao3, cap3, xs2, l2, ao4, cap4, xs3, l3, ao5, cap5, xs4, l4, ao6, cap6, xs5, l5, ao7, cap7, xs6, l6, ao8, cap8, xs7, l7, ao9, cap9, xs8, rl8, rl9, rl10, rl11, rl12, rl13, rl14, hsub1, hS1, hm⟩
  refine WP.sub hsub1 (WP.weaken hS1 ?_)
  rw [diagram_cells6_loop1] at hm
  refine WP.seq (WP.region (V rfl (ov_lss rfl rfl rfl) (WL.nil (tn (WP.seq ?_)))))
  refine WP.cond rfl (fun hc3 => ?_) (fun hc3 => ?_)
  ·
   replace hm := ite_t hc3 hm
   refine WP.skip (tn ?_)
   obtain ⟨k2, hk2, hm⟩ := joinK_some hm
   refine WP.seq_join (fun g' S' => ∃ (l26 : (List Bool)) (ao29 : _) (cap29 : _) (xs22 : _) (l27 : (List Cell)) (ao30 : _) (cap30 : _) (xs23 : _) (l28 : (List Cell)) (ao31 : _) (cap31 : _) (xs24 : _) (l29 : (List Cell)) (ao32 : _) (cap32 : _) (xs25 : _) (l30 : (List Cell)) (ao33 : _) (cap33 : _) (xs26 : _) (l31 : (List Cell)) (ao34 : _) (cap34 : _) (xs27 : _) (l32 : (List Cell)) (ao35 : _) (cap35 : _) (xs28 : _), RL H encBool l26 xs22 ∧ RL H encCell l27 xs23 ∧ RL H encCell l28 xs24 ∧ RL H encCell l29 xs25 ∧ RL H encCell l30 xs26 ∧ RL H encCell l31 xs27 ∧ RL H encCell l32 xs28 ∧ Sub [(1, (pB b1 0)), (3, (.slice (some ⟨b2, 0, none⟩) 6 6)), (4, (.slice ao29 l26.length cap29)), (20, (.slice ao1 p_s.steps.length cap1)), (21, (.int .i64 (p_s.steps.length : Int))), (22, (.int .i64 i1)), (1000000007, (.bool false))] g' ∧ (∀ w', S' w' → St w H [rowE 80 encCell l32 ao35 cap35 xs28, rowE 80 encCell l31 ao34 cap34 xs27, rowE 80 encCell l30 ao33 cap33 xs26, rowE 80 encCell l29 ao32 cap32 xs25, rowE 80 encCell l28 ao31 cap31 xs24, rowE 80 encCell l27 ao30 cap30 xs23, rowE 4 encBool l26 ao29 cap29 xs22, .blk b2 78 [(.slice ao30 l27.length cap30), (.slice ao31 l28.length cap31), (.slice ao32 l29.length cap32), (.slice ao33 l30.length cap33), (.slice ao34 l31.length cap34), (.slice ao35 l32.length cap35)], .blk b1 24 [(.int .i64 p_s.actuators), (.slice ao1 p_s.steps.length cap1)]] H w') ∧ k2 l26 l27 l28 l29 l30 l31 l32 = some r) ?_ ?_
   ·
    refine WP.block (WP.seq (WP.region ?_))
    obtain ⟨x1, e2, hm⟩ := bind_some hm
    obtain ⟨h4, h5, h6, cs1, h7, h8⟩ := h1.get e2 (by decide)
    obtain ⟨ao10, cap10, rfl, h3, hc4⟩ := h7
    refine V rfl (ov_indexAddr underlying22 sizeOf45 rfl rfl rfl h4 h5 h6) (V rfl (ov_load_elems (vs := [(.slice ao10 x1.strokes.length cap10), (.int .i64 x1.wait)]) isAgg45 sizeOf45 rfl rfl rfl h8 h6) ?_)
    refine ws rfl (os_alloc (cs := [(.slice none 0 0), (.int .i64 0)]) zeroValue45 rfl rfl (fun b4 => ?_))
    refine ws0 rfl (os_store (i := 0) (vs := [(.slice ao10 x1.strokes.length cap10), (.int .i64 x1.wait)]) (cs' := [(.slice ao10 x1.strokes.length cap10), (.int .i64 x1.wait)]) sizeOf45 rfl rfl rfl rfl rfl rfl rfl rfl rfl ?_)
    refine WL.nil (tn (WP.seq (WP.region (V rfl (ov_fieldAddr underlying24 rfl rfl rfl sizeOf3 rfl rfl) (Vl 9 isAgg3 rfl ?_)))))
    obtain ⟨u2, e3, hm⟩ := bind_some hm
    replace e3 := guardO_some e3
    refine ws rfl (os_makeSlice (En := encCell) (z := (.agg #[(.int .u8 0), (.int .u8 0)])) (y0 := (Cell.mk 0 0)) (bytes := 2) underlying78 (by kernel_rfl) rfl (by decide) rfl rfl rfl e3 (fun b5 xs9 rl15 => ?_))
    refine Va rfl (WL.nil (tn ?_))
    obtain ⟨k3, hk3, hm⟩ := joinK_some hm
    refine WP.seq_join (fun g' S' => ∃ (l9 : (List Cell)) (ao12 : _) (cap12 : _) (xs11 : _), RL H encCell l9 xs11 ∧ Sub [(1, (pB b1 0)), (3, (.slice (some ⟨b2, 0, none⟩) 6 6)), (4, (.slice ao3 l1.length cap3)), (6, (pB b4 0)), (7, (.slice ao12 l9.length cap12)), (20, (.slice ao1 p_s.steps.length cap1)), (21, (.int .i64 (p_s.steps.length : Int))), (22, (.int .i64 i1)), (1000000007, (.bool false))] g' ∧ (∀ w', S' w' → St w H [rowE 80 encCell l9 ao12 cap12 xs11, .blk b4 45 [(.slice ao10 x1.strokes.length cap10), (.int .i64 x1.wait)], rowE 80 encCell l7 ao9 cap9 xs8, rowE 80 encCell l6 ao8 cap8 xs7, rowE 80 encCell l5 ao7 cap7 xs6, rowE 80 encCell l4 ao6 cap6 xs5, rowE 80 encCell l3 ao5 cap5 xs4, rowE 80 encCell l2 ao4 cap4 xs3, rowE 4 encBool l1 ao3 cap3 xs2, .blk b2 78 [(.slice ao4 l2.length cap4), (.slice ao5 l3.length cap5), (.slice ao6 l4.length cap6), (.slice ao7 l5.length cap7), (.slice ao8 l6.length cap8), (.slice ao9 l7.length cap9)], .blk b1 24 [(.int .i64 p_s.actuators), (.slice ao1 p_s.steps.length cap1)]] H w') ∧ k3 l9 = some r) ?_ ?_
    ·
     refine WP.seq (WP.region (Vm rfl (V rfl (ov_len_slice underlying49 rfl rfl) (Vm rfl (WL.nil (tn (WP.block ?_)))))))
     refine WP.loop (fun m2 g' S' => ∃ (i2 : Int) (l8 : (List Cell)) (ao11 : _) (cap11 : _) (xs10 : _), RL H encCell l8 xs10 ∧ Sub [(1, (pB b1 0)), (3, (.slice (some ⟨b2, 0, none⟩) 6 6)), (4, (.slice ao3 l1.length cap3)), (6, (pB b4 0)), (7, (.slice ao11 l8.length cap11)), (20, (.slice ao1 p_s.steps.length cap1)), (21, (.int .i64 (p_s.steps.length : Int))), (22, (.int .i64 i1)), (29, (.slice ao3 l1.length cap3)), (30, (.int .i64 (l1.length : Int))), (31, (.int .i64 i2)), (1000000007, (.bool false))] g' ∧ (∀ w', S' w' → St w H [rowE 80 encCell l8 ao11 cap11 xs10, .blk b4 45 [(.slice ao10 x1.strokes.length cap10), (.int .i64 x1.wait)], rowE 80 encCell l7 ao9 cap9 xs8, rowE 80 encCell l6 ao8 cap8 xs7, rowE 80 encCell l5 ao7 cap7 xs6, rowE 80 encCell l4 ao6 cap6 xs5, rowE 80 encCell l3 ao5 cap5 xs4, rowE 80 encCell l2 ao4 cap4 xs3, rowE 4 encBool l1 ao3 cap3 xs2, .blk b2 78 [(.slice ao4 l2.length cap4), (.slice ao5 l3.length cap5), (.slice ao6 l4.length cap6), (.slice ao7 l5.length cap7), (.slice ao8 l6.length cap8), (.slice ao9 l7.length cap9)], .blk b1 24 [(.int .i64 p_s.actuators), (.slice ao1 p_s.steps.length cap1)]] H w') ∧ diagram_cells1_loop2 l1 k3 m2 i2 l8 = some r) ((Int.toNat ((l1.length : Int) - 0) + 1)) ⟨0, (List.replicate (Int.toNat p_s.actuators) (Cell.mk 0 0)), (some ⟨b5, 0, none⟩), (Int.toNat p_s.actuators), xs9, rl15, (Sub.all rfl), fun w' s => s, hm⟩ ?_ ?_
     ·
      rintro g' S' ⟨_, _, _, _, _, _, _, _, hm⟩
      exact none_some hm
     rintro m2 g' S' ⟨i2, l8, ao11, cap11, xs10, rl16, hsub2, hS2, hm⟩
     refine WP.sub hsub2 (WP.weaken hS2 ?_)
     rw [diagram_cells1_loop2] at hm
     refine WP.seq (WP.region (V rfl (ov_lss rfl rfl rfl) (WL.nil (tn (WP.seq ?_)))))
     refine WP.cond rfl (fun hc5 => ?_) (fun hc5 => ?_)
     ·
      replace hm := ite_t hc5 hm
      refine WP.skip (tn (WP.seq (WP.block (WP.seq (WP.region (Vm rfl ?_))))))
      obtain ⟨x2, e4, hm⟩ := bind_some hm
      obtain ⟨h9, h10, h11, cs2, h12, h13⟩ := RL.get rl8 e4
      obtain rfl : cs2 = [(.bool x2)] := h12
      refine V rfl (ov_indexAddr_own (i := 8) underlying49 sizeOf4 rfl rfl rfl rfl h9 h10) (V rfl (ov_load_own (i := 8) isAgg4 rfl rfl rfl (own_pos h9 h10) (elem_cell h13 (off := 0) rfl)) (Va rfl (Va rfl (WL.nil (tn ?_)))))
      refine WP.region_any (S₀ := St w H [.blk b4 45 [(.slice ao10 x1.strokes.length cap10), (.int .i64 x1.wait)], rowE 80 encCell l7 ao9 cap9 xs8, rowE 80 encCell l6 ao8 cap8 xs7, rowE 80 encCell l5 ao7 cap7 xs6, rowE 80 encCell l4 ao6 cap6 xs5, rowE 80 encCell l3 ao5 cap5 xs4, rowE 80 encCell l2 ao4 cap4 xs3, rowE 4 encBool l1 ao3 cap3 xs2, .blk b2 78 [(.slice ao4 l2.length cap4), (.slice ao5 l3.length cap5), (.slice ao6 l4.length cap6), (.slice ao7 l5.length cap7), (.slice ao8 l6.length cap8), (.slice ao9 l7.length cap9)], .blk b1 24 [(.int .i64 p_s.actuators), (.slice ao1 p_s.steps.length cap1)]] H) 13 rfl (by kernel_rfl) (fun w' s => (s.sl [1, 2, 3, 4, 5, 6, 7, 8, 9, 10])) (fun _ s => s.drew) ?_
      refine TQ' 0 rfl (ov_move rfl rfl) (TQ' 1 rfl (ov_move rfl rfl) (TQ' 2 rfl (ov_move rfl rfl) (TQ' 6 rfl (ov_move rfl rfl) ?_)))
      refine AL.any (rs := [3]) (by kernel_rfl) (by decide) ?_
      refine ALs.cons (i := 3) rfl (Runs.free rfl) rfl rfl ?_ ?_
      ·
       obtain ⟨r1, e5, hm⟩ := bind_some hm
       refine OQ.step (oq_con (r := (.int .i64 r1)) call87 rfl rfl (fun w' s => ⟨_, (diagram_index_con x2  w' H s.hold hG r1 e5)⟩)) ?_
       refine ⟨fun w' s => (s.sl [1, 2, 3, 4, 5, 6, 7, 8, 9, 10]), ?_⟩
       obtain ⟨x3, e6, hm⟩ := bind_some hm
       obtain ⟨h14, h15, h16, cs3, h17, h18⟩ := hG.1.1.1.get e6 (by decide)
       obtain rfl : cs3 = [(.int .u8 x3)] := h17
       refine TQ' 4 rfl (ov_indexAddr_globL rfl underlying84 sizeOf5 rfl rfl rfl h14 h15) (TQ' 5 rfl (ov_load_elem (v := (.int .u8 x3)) isAgg5 rfl rfl h18) ?_)
       refine AL.any (rs := [7]) (by kernel_rfl) (by decide) ?_
       refine ALs.cons (i := 7) rfl (Runs.free rfl) rfl rfl ?_ ?_
       ·
        obtain ⟨r2, e7, hm⟩ := bind_some hm
        refine OQ.step (oq_con (r := (.int .i64 r2)) call87 rfl rfl (fun w' s => ⟨_, (diagram_index_con x2  w' H s.hold hG r2 e7)⟩)) ?_
        refine ⟨fun w' s => (s.sl [1, 2, 3, 4, 5, 6, 7, 8, 9, 10]), ?_⟩
        obtain ⟨x4, e8, hm⟩ := bind_some hm
        obtain ⟨h19, h20, h21, cs4, h22, h23⟩ := hG.1.1.1.get e8 (by decide)
        obtain rfl : cs4 = [(.int .u8 x4)] := h22
        refine TQ' 8 rfl (ov_indexAddr_globL rfl underlying84 sizeOf5 rfl rfl rfl h19 h20) (TQ' 9 rfl (ov_load_elem (v := (.int .u8 x4)) isAgg5 rfl rfl h23) (TQ' 10 rfl (ov_build (r := (.agg #[(.int .u8 x3), (.int .u8 x4)])) rfl rfl (fun _ => by kernel_rfl)) ?_))
        refine AL.any (rs := [11]) (by kernel_rfl) (by decide) ?_
        refine ALs.cons (i := 11) rfl (Runs.free rfl) rfl rfl ?_ ?_
        ·
         obtain ⟨x5, e9, hm⟩ := bind_some hm
         obtain ⟨h24, h25, h26, cs5, h27, h28⟩ := RL.get rl16 e9
         obtain rfl : cs5 = [(.int .u8 x5.first), (.int .u8 x5.second)] := h27
         refine OQ.step (OV.quiet (ov_indexAddr_own (i := 0) underlying78 sizeOf80 rfl rfl rfl rfl h24 h25)) ?_
         refine ⟨fun w' s => (s.sl [1, 2, 3, 4, 5, 6, 7, 8, 9, 10]), ?_⟩
         refine AL.any (rs := [12]) (by kernel_rfl) (by decide) ?_
         refine ALs.cons0 (i := 12) rfl (Runs.free rfl) rfl ?_ ?_
         ·
          have rl17 := RL.set rl16 (y := (Cell.mk x3 x4)) (off := 0) (vs := [(.int .u8 x3), (.int .u8 x4)]) e9 h28 rfl (Nat.le_of_ble_eq_true rfl)
          have e10 := at?_set (y := (Cell.mk x3 x4)) e9
          refine os_store_own (i := 0) (vs := [(.int .u8 x3), (.int .u8 x4)]) sizeOf80 rfl rfl rfl rfl (own_pos h24 h25) rfl rfl (elem_le (off := 0) h26 (Nat.le_of_ble_eq_true rfl)) rfl ?_
          rw [show l8.length = (List.set l8 (Int.toNat i2) (Cell.mk x3 x4)).length from List.length_set.symm]
          obtain ⟨h29, h30, h31, cs6, h32, h33⟩ := rl17.get e10
          obtain rfl : cs6 = [(.int .u8 x3), (.int .u8 x4)] := h32
          refine ⟨fun w' s => (s.sl [1, 2, 3, 4, 5, 6, 7, 8, 9, 10]), ?_⟩
          refine AL.done (by kernel_rfl) ?_
          refine bn (tn (WP.region (V rfl (ov_add rfl rfl rfl) (Vm rfl (WL.nil (tn ?_))))))
          exact ⟨(IntKind.wrap .i64 (i2 + 1)), (List.set l8 (Int.toNat i2) (Cell.mk x3 x4)), ao11, cap11, (spl xs10 (Int.toNat i2 * encCell.size + 0) [(.int .u8 x3), (.int .u8 x4)]), rl17, (Sub.all rfl), fun w' s => s, hm⟩
         exact ALs.nil
        exact ALs.nil
       exact ALs.nil
      exact ALs.nil
     replace hm := ite_f hc5 hm
     refine WP.exit (then_exit (then_exit (block_here (tn ?_))))
     exact ⟨l8, ao11, cap11, xs10, rl16, (Sub.all rfl), fun w' s => s, hm⟩
    rintro g' S' ⟨l9, ao12, cap12, xs11, rl18, hsub3, hS3, hm⟩
    refine WP.sub hsub3 (WP.weaken hS3 ?_)
    replace hm := (congrFun hk3 l9).symm.trans hm
    obtain ⟨k4, hk4, hm⟩ := joinK_some hm
    refine WP.seq_join (fun g' S' => ∃ (l12 : (List Bool)) (ao15 : _) (cap15 : _) (xs14 : _) (l13 : (List Cell)) (ao16 : _) (cap16 : _) (xs15 : _), RL H encBool l12 xs14 ∧ RL H encCell l13 xs15 ∧ Sub [(1, (pB b1 0)), (3, (.slice (some ⟨b2, 0, none⟩) 6 6)), (4, (.slice ao15 l12.length cap15)), (7, (.slice ao16 l13.length cap16)), (20, (.slice ao1 p_s.steps.length cap1)), (21, (.int .i64 (p_s.steps.length : Int))), (22, (.int .i64 i1)), (1000000007, (.bool false))] g' ∧ (∀ w', S' w' → St w H [rowE 80 encCell l13 ao16 cap16 xs15, rowE 80 encCell l7 ao9 cap9 xs8, rowE 80 encCell l6 ao8 cap8 xs7, rowE 80 encCell l5 ao7 cap7 xs6, rowE 80 encCell l4 ao6 cap6 xs5, rowE 80 encCell l3 ao5 cap5 xs4, rowE 80 encCell l2 ao4 cap4 xs3, rowE 4 encBool l12 ao15 cap15 xs14, .blk b2 78 [(.slice ao4 l2.length cap4), (.slice ao5 l3.length cap5), (.slice ao6 l4.length cap6), (.slice ao7 l5.length cap7), (.slice ao8 l6.length cap8), (.slice ao9 l7.length cap9)], .blk b1 24 [(.int .i64 p_s.actuators), (.slice ao1 p_s.steps.length cap1)]] H w') ∧ k4 l12 l13 = some r) ?_ ?_
    ·
     refine WP.seq (WP.region (V rfl (ov_fieldAddr underlying45 rfl rfl rfl sizeOf43 rfl rfl) (Vl 1 isAgg43 rfl (V rfl (ov_len_slice underlying43 rfl rfl) (Vm rfl (WL.nil (tn (WP.block ?_))))))))
     refine WP.loop (fun m3 g' S' => ∃ (i3 : Int) (l10 : (List Bool)) (ao13 : _) (cap13 : _) (xs12 : _) (l11 : (List Cell)) (ao14 : _) (cap14 : _) (xs13 : _), RL H encBool l10 xs12 ∧ RL H encCell l11 xs13 ∧ Sub [(1, (pB b1 0)), (3, (.slice (some ⟨b2, 0, none⟩) 6 6)), (4, (.slice ao13 l10.length cap13)), (7, (.slice ao14 l11.length cap14)), (20, (.slice ao1 p_s.steps.length cap1)), (21, (.int .i64 (p_s.steps.length : Int))), (22, (.int .i64 i1)), (50, (.slice ao10 x1.strokes.length cap10)), (51, (.int .i64 (x1.strokes.length : Int))), (52, (.int .i64 i3)), (1000000007, (.bool false))] g' ∧ (∀ w', S' w' → St w H [rowE 80 encCell l11 ao14 cap14 xs13, rowE 80 encCell l7 ao9 cap9 xs8, rowE 80 encCell l6 ao8 cap8 xs7, rowE 80 encCell l5 ao7 cap7 xs6, rowE 80 encCell l4 ao6 cap6 xs5, rowE 80 encCell l3 ao5 cap5 xs4, rowE 80 encCell l2 ao4 cap4 xs3, rowE 4 encBool l10 ao13 cap13 xs12, .blk b2 78 [(.slice ao4 l2.length cap4), (.slice ao5 l3.length cap5), (.slice ao6 l4.length cap6), (.slice ao7 l5.length cap7), (.slice ao8 l6.length cap8), (.slice ao9 l7.length cap9)], .blk b1 24 [(.int .i64 p_s.actuators), (.slice ao1 p_s.steps.length cap1)]] H w') ∧ diagram_cells1_loop3 x1 k4 m3 i3 l10 l11 = some r) ((Int.toNat ((x1.strokes.length : Int) - 0) + 1)) ⟨0, l1, ao3, cap3, xs2, l9, ao12, cap12, xs11, rl8, rl18, (Sub.all rfl), fun w' s => (s.sl [0, 2, 3, 4, 5, 6, 7, 8, 9, 10]), hm⟩ ?_ ?_
     ·
      rintro g' S' ⟨_, _, _, _, _, _, _, _, _, _, _, _, _, hm⟩
      exact none_some hm
     rintro m3 g' S' ⟨i3, l10, ao13, cap13, xs12, l11, ao14, cap14, xs13, rl19, rl20, hsub4, hS4, hm⟩
     refine WP.sub hsub4 (WP.weaken hS4 ?_)
     rw [diagram_cells1_loop3] at hm
     refine WP.seq (WP.region (V rfl (ov_lss rfl rfl rfl) (WL.nil (tn (WP.seq ?_)))))
     refine WP.cond rfl (fun hc6 => ?_) (fun hc6 => ?_)
     ·
      replace hm := ite_t hc6 hm
      refine WP.skip (tn (WP.seq (WP.block (WP.seq (WP.region ?_)))))
      obtain ⟨x6, e11, hm⟩ := bind_some hm
      obtain ⟨h34, h35, h36, cs7, h37, h38⟩ := h3.get e11 (by decide)
      obtain rfl : cs7 = [(.int .i64 x6.actuator), (.bool x6.out)] := h37
      refine V rfl (ov_indexAddr underlying43 sizeOf48 rfl rfl rfl h34 h35 h36) (V rfl (ov_load_elems (vs := [(.int .i64 x6.actuator), (.bool x6.out)]) isAgg48 sizeOf48 rfl rfl rfl h38 h36) ?_)
      refine ws rfl (os_alloc (cs := [(.int .i64 0), (.bool false)]) zeroValue48 rfl rfl (fun b6 => ?_))
      refine ws0 rfl (os_store (i := 0) (vs := [(.int .i64 x6.actuator), (.bool x6.out)]) (cs' := [(.int .i64 x6.actuator), (.bool x6.out)]) sizeOf48 rfl rfl rfl rfl rfl rfl rfl rfl rfl ?_)
      refine WL.nil (tn (WP.seq (WP.region (Vm rfl (V rfl (ov_fieldAddr underlying48 rfl rfl rfl sizeOf3 rfl rfl) (Vl 0 isAgg3 rfl (V rfl (ov_fieldAddr underlying48 rfl rfl rfl sizeOf4 rfl rfl) (Vl 0 isAgg4 rfl ?_))))))))
      obtain ⟨x7, e12, hm⟩ := bind_some hm
      obtain ⟨h39, h40, h41, cs8, h42, h43⟩ := RL.get rl19 e12
      obtain rfl : cs8 = [(.bool x7)] := h42
      refine V rfl (ov_indexAddr_own (i := 8) underlying49 sizeOf4 rfl rfl rfl rfl h39 h40) ?_
      have rl21 := RL.set rl19 (y := x6.out) (off := 0) (vs := [(.bool x6.out)]) e12 h43 rfl (Nat.le_of_ble_eq_true rfl)
      have e13 := at?_set (y := x6.out) e12
      refine ws0 rfl (os_store_own (i := 8) (vs := [(.bool x6.out)]) sizeOf4 rfl rfl rfl rfl (own_pos h39 h40) rfl rfl (elem_le (off := 0) h41 (Nat.le_of_ble_eq_true rfl)) rfl ?_)
      rw [show l10.length = (List.set l10 (Int.toNat x6.actuator) x6.out).length from List.length_set.symm]
      obtain ⟨h44, h45, h46, cs9, h47, h48⟩ := rl21.get e13
      obtain rfl : cs9 = [(.bool x6.out)] := h47
      refine WL.nil (tn ?_)
      refine WP.region_any (S₀ := St w H [.blk b6 48 [(.int .i64 x6.actuator), (.bool x6.out)], rowE 80 encCell l7 ao9 cap9 xs8, rowE 80 encCell l6 ao8 cap8 xs7, rowE 80 encCell l5 ao7 cap7 xs6, rowE 80 encCell l4 ao6 cap6 xs5, rowE 80 encCell l3 ao5 cap5 xs4, rowE 80 encCell l2 ao4 cap4 xs3, .row 4 (encBool).size (List.set l10 (Int.toNat x6.actuator) x6.out).length (.slice ao13 (List.set l10 (Int.toNat x6.actuator) x6.out).length cap13) (spl xs12 (Int.toNat x6.actuator * encBool.size + 0) [(.bool x6.out)]), .blk b2 78 [(.slice ao4 l2.length cap4), (.slice ao5 l3.length cap5), (.slice ao6 l4.length cap6), (.slice ao7 l5.length cap7), (.slice ao8 l6.length cap8), (.slice ao9 l7.length cap9)], .blk b1 24 [(.int .i64 p_s.actuators), (.slice ao1 p_s.steps.length cap1)]] H) 16 rfl (by kernel_rfl) (fun w' s => (s.sl [0, 2, 3, 4, 5, 6, 7, 8, 9, 10])) (fun _ s => s.drew) ?_
      refine TQ' 0 rfl (ov_move rfl rfl) (TQ' 1 rfl (ov_fieldAddr underlying48 rfl rfl rfl sizeOf3 rfl rfl) (TQ' 2 rfl (ov_load_box (i := 0) isAgg3 rfl rfl rfl rfl) (TQ' 3 rfl (ov_fieldAddr underlying48 rfl rfl rfl sizeOf4 rfl rfl) (TQ' 4 rfl (ov_load_box (i := 0) isAgg4 rfl rfl rfl rfl) (TQ' 8 rfl (ov_fieldAddr underlying48 rfl rfl rfl sizeOf4 rfl rfl) (TQ' 9 rfl (ov_load_box (i := 0) isAgg4 rfl rfl rfl rfl) ?_))))))
      refine AL.any (rs := [5]) (by kernel_rfl) (by decide) ?_
      refine ALs.cons (i := 5) rfl (Runs.free rfl) rfl rfl ?_ ?_
      ·
       obtain ⟨r3, e14, hm⟩ := bind_some hm
       refine OQ.step (oq_con (r := (.int .i64 r3)) call87 rfl rfl (fun w' s => ⟨_, (diagram_index_con x6.out  w' H s.hold hG r3 e14)⟩)) ?_
       refine ⟨fun w' s => (s.sl [0, 2, 3, 4, 5, 6, 7, 8, 9, 10]), ?_⟩
       obtain ⟨x8, e15, hm⟩ := bind_some hm
       obtain ⟨h49, h50, h51, cs10, h52, h53⟩ := hG.1.1.2.get e15 (by decide)
       obtain rfl : cs10 = [(.int .u8 x8)] := h52
       refine TQ' 6 rfl (ov_indexAddr_globL rfl underlying84 sizeOf5 rfl rfl rfl h49 h50) (TQ' 7 rfl (ov_load_elem (v := (.int .u8 x8)) isAgg5 rfl rfl h53) ?_)
       refine AL.any (rs := [10]) (by kernel_rfl) (by decide) ?_
       refine ALs.cons (i := 10) rfl (Runs.free rfl) rfl rfl ?_ ?_
       ·
        obtain ⟨r4, e16, hm⟩ := bind_some hm
        refine OQ.step (oq_con (r := (.int .i64 r4)) call87 rfl rfl (fun w' s => ⟨_, (diagram_index_con x6.out  w' H s.hold hG r4 e16)⟩)) ?_
        refine ⟨fun w' s => (s.sl [0, 2, 3, 4, 5, 6, 7, 8, 9, 10]), ?_⟩
        obtain ⟨x9, e17, hm⟩ := bind_some hm
        obtain ⟨h54, h55, h56, cs11, h57, h58⟩ := hG.1.1.1.get e17 (by decide)
        obtain rfl : cs11 = [(.int .u8 x9)] := h57
        refine TQ' 11 rfl (ov_indexAddr_globL rfl underlying84 sizeOf5 rfl rfl rfl h54 h55) (TQ' 12 rfl (ov_load_elem (v := (.int .u8 x9)) isAgg5 rfl rfl h58) (TQ' 13 rfl (ov_build (r := (.agg #[(.int .u8 x8), (.int .u8 x9)])) rfl rfl (fun _ => by kernel_rfl)) ?_))
        refine AL.any (rs := [14]) (by kernel_rfl) (by decide) ?_
        refine ALs.cons (i := 14) rfl (Runs.free rfl) rfl rfl ?_ ?_
        ·
         obtain ⟨x10, e18, hm⟩ := bind_some hm
         obtain ⟨h59, h60, h61, cs12, h62, h63⟩ := RL.get rl20 e18
         obtain rfl : cs12 = [(.int .u8 x10.first), (.int .u8 x10.second)] := h62
         refine OQ.step (OV.quiet (ov_indexAddr_own (i := 1) underlying78 sizeOf80 rfl rfl rfl rfl h59 h60)) ?_
         refine ⟨fun w' s => (s.sl [0, 2, 3, 4, 5, 6, 7, 8, 9, 10]), ?_⟩
         refine AL.any (rs := [15]) (by kernel_rfl) (by decide) ?_
         refine ALs.cons0 (i := 15) rfl (Runs.free rfl) rfl ?_ ?_
         ·
          have rl22 := RL.set rl20 (y := (Cell.mk x8 x9)) (off := 0) (vs := [(.int .u8 x8), (.int .u8 x9)]) e18 h63 rfl (Nat.le_of_ble_eq_true rfl)
          have e19 := at?_set (y := (Cell.mk x8 x9)) e18
          refine os_store_own (i := 1) (vs := [(.int .u8 x8), (.int .u8 x9)]) sizeOf80 rfl rfl rfl rfl (own_pos h59 h60) rfl rfl (elem_le (off := 0) h61 (Nat.le_of_ble_eq_true rfl)) rfl ?_
          rw [show l11.length = (List.set l11 (Int.toNat x6.actuator) (Cell.mk x8 x9)).length from List.length_set.symm]
          obtain ⟨h64, h65, h66, cs13, h67, h68⟩ := rl22.get e19
          obtain rfl : cs13 = [(.int .u8 x8), (.int .u8 x9)] := h67
          refine ⟨fun w' s => (s.sl [0, 2, 3, 4, 5, 6, 7, 8, 9, 10]), ?_⟩
          refine AL.done (by kernel_rfl) ?_
          refine bn (tn (WP.region (V rfl (ov_add rfl rfl rfl) (Vm rfl (WL.nil (tn ?_))))))
          exact ⟨(IntKind.wrap .i64 (i3 + 1)), (List.set l10 (Int.toNat x6.actuator) x6.out), ao13, cap13, (spl xs12 (Int.toNat x6.actuator * encBool.size + 0) [(.bool x6.out)]), (List.set l11 (Int.toNat x6.actuator) (Cell.mk x8 x9)), ao14, cap14, (spl xs13 (Int.toNat x6.actuator * encCell.size + 0) [(.int .u8 x8), (.int .u8 x9)]), rl21, rl22, (Sub.all rfl), fun w' s => (s.sl [1, 2, 3, 4, 5, 6, 7, 8, 9, 10]), hm⟩
         exact ALs.nil
        exact ALs.nil
       exact ALs.nil
      exact ALs.nil
     replace hm := ite_f hc6 hm
     refine WP.exit (then_exit (then_exit (block_here (tn ?_))))
     exact ⟨l10, ao13, cap13, xs12, l11, ao14, cap14, xs13, rl19, rl20, (Sub.all rfl), fun w' s => s, hm⟩
    rintro g' S' ⟨l12, ao15, cap15, xs14, l13, ao16, cap16, xs15, rl23, rl24, hsub5, hS5, hm⟩
    refine WP.sub hsub5 (WP.weaken hS5 ?_)
    replace hm := (congrFun (congrFun hk4 l12) l13).symm.trans hm
    refine WP.seq (WP.region (Vm rfl (V rfl (ov_len_slice underlying76 rfl rfl) (Vm rfl (WL.nil (tn (WP.block ?_)))))))
    refine WP.loop (fun m4 g' S' => ∃ (i4 : Int) (l14 : (List Cell)) (ao17 : _) (cap17 : _) (xs16 : _) (l15 : (List Cell)) (ao18 : _) (cap18 : _) (xs17 : _) (l16 : (List Cell)) (ao19 : _) (cap19 : _) (xs18 : _) (l17 : (List Cell)) (ao20 : _) (cap20 : _) (xs19 : _) (l18 : (List Cell)) (ao21 : _) (cap21 : _) (xs20 : _) (l19 : (List Cell)) (ao22 : _) (cap22 : _) (xs21 : _), RL H encCell l14 xs16 ∧ RL H encCell l15 xs17 ∧ RL H encCell l16 xs18 ∧ RL H encCell l17 xs19 ∧ RL H encCell l18 xs20 ∧ RL H encCell l19 xs21 ∧ Sub [(1, (pB b1 0)), (3, (.slice (some ⟨b2, 0, none⟩) 6 6)), (4, (.slice ao15 l12.length cap15)), (7, (.slice ao16 l13.length cap16)), (20, (.slice ao1 p_s.steps.length cap1)), (21, (.int .i64 (p_s.steps.length : Int))), (22, (.int .i64 i1)), (79, (.int .i64 6)), (80, (.int .i64 i4)), (1000000007, (.bool false))] g' ∧ (∀ w', S' w' → St w H [rowE 80 encCell l13 ao16 cap16 xs15, rowE 80 encCell l19 ao22 cap22 xs21, rowE 80 encCell l18 ao21 cap21 xs20, rowE 80 encCell l17 ao20 cap20 xs19, rowE 80 encCell l16 ao19 cap19 xs18, rowE 80 encCell l15 ao18 cap18 xs17, rowE 80 encCell l14 ao17 cap17 xs16, rowE 4 encBool l12 ao15 cap15 xs14, .blk b2 78 [(.slice ao17 l14.length cap17), (.slice ao18 l15.length cap18), (.slice ao19 l16.length cap19), (.slice ao20 l17.length cap20), (.slice ao21 l18.length cap21), (.slice ao22 l19.length cap22)], .blk b1 24 [(.int .i64 p_s.actuators), (.slice ao1 p_s.steps.length cap1)]] H w') ∧ diagram_cells6_loop4 k2 l13 l12 m4 i4 l14 l15 l16 l17 l18 l19 = some r) ((Int.toNat (6 - 0) + 1)) ⟨0, l2, ao4, cap4, xs3, l3, ao5, cap5, xs4, l4, ao6, cap6, xs5, l5, ao7, cap7, xs6, l6, ao8, cap8, xs7, l7, ao9, cap9, xs8, rl9, rl10, rl11, rl12, rl13, rl14, (Sub.all rfl), fun w' s => s, hm⟩ ?_ ?_
    ·
     rintro g' S' ⟨_, _, _, _, _, _, _, _, _, _, _, _, _, _, _, _, _, _, _, _, _, _, _, _, _, _, _, _, _, _, _, _, _, hm⟩
     exact none_some hm
    rintro m4 g' S' ⟨i4, l14, ao17, cap17, xs16, l15, ao18, cap18, xs17, l16, ao19, cap19, xs18, l17, ao20, cap20, xs19, l18, ao21, cap21, xs20, l19, ao22, cap22, xs21, rl25, rl26, rl27, rl28, rl29, rl30, hsub6, hS6, hm⟩
    refine WP.sub hsub6 (WP.weaken hS6 ?_)
    rw [diagram_cells6_loop4] at hm
    refine WP.seq (WP.region (V rfl (ov_lss rfl rfl rfl) (WL.nil (tn (WP.seq ?_)))))
    refine WP.cond rfl (fun hc7 => ?_) (fun hc7 => ?_)
    ·
     replace hm := ite_t hc7 hm
     refine WP.skip (tn (WP.seq (WP.block (WP.seq (WP.region (Vm rfl (Va rfl (WL.nil (tn ?_)))))))))
     refine WP.region_any (S₀ := St w H [rowE 80 encCell l13 ao16 cap16 xs15, rowE 4 encBool l12 ao15 cap15 xs14, .blk b1 24 [(.int .i64 p_s.actuators), (.slice ao1 p_s.steps.length cap1)]] H) 14 rfl (by kernel_rfl) (fun w' s => (s.sl [0, 7, 9])) (fun _ s => s.drew) ?_
     refine TQ' 0 rfl (ov_move rfl rfl) (TQ' 1 rfl (ov_move rfl rfl) (TQ' 2 rfl (ov_move rfl rfl) (TQ' 3 rfl (ov_move rfl rfl) ?_)))
     rcases Bool.eq_false_or_eq_true (i4 == 0) with hc8 | hc8
     ·
      replace hm := ite_t hc8 hm
      refine TQ' 4 rfl (ov_indexAddr_bsl (j := 0) underlying76 sizeOf78 rfl rfl rfl (eq_of_beq hc8) rfl) (TQ' 6 rfl (ov_move rfl rfl) (TQ' 7 rfl (ov_move rfl rfl) ?_))
      obtain ⟨x11, e20, hm⟩ := bind_some hm
      obtain ⟨h69, h70, h71, cs14, h72, h73⟩ := RL.get rl24 e20
      obtain rfl : cs14 = [(.int .u8 x11.first), (.int .u8 x11.second)] := h72
      refine TQ' 8 rfl (ov_indexAddr_own (i := 0) underlying78 sizeOf80 rfl rfl rfl rfl h69 h70) (TQ' 9 rfl (ov_load_owns (i := 0) (vs := [(.int .u8 x11.first), (.int .u8 x11.second)]) isAgg80 sizeOf80 rfl rfl rfl (own_pos h69 h70) rfl (fun j u hu => elem_cell h73 hu)) ?_)
      refine AL.any (rs := [5, 10]) (by kernel_rfl) (by decide) ?_
      refine ALs.cons (i := 5) rfl (Runs.free rfl) rfl rfl ?_ ?_
      ·
       refine OQ.step (OV.quiet (ov_load_box (i := 8) isAgg78 rfl rfl rfl rfl)) ?_
       refine ⟨fun w' s => (s.sl [0, 7, 9]), ?_⟩
       refine AL.any (rs := [10]) (by kernel_rfl) (by decide) ?_
       refine ALs.cons (i := 10) rfl (Runs.free rfl) rfl rfl ?_ ?_
       ·
        have rl31 : RL H encCell ([x11] : List Cell) [(.int .u8 x11.first), (.int .u8 x11.second)] := RL.cons (cs := [(.int .u8 x11.first), (.int .u8 x11.second)]) (xs := []) rfl (RL.nil _ _)
        refine os_buildSlice (cs := [(.int .u8 x11.first), (.int .u8 x11.second)]) (E := 80) (sz := 2) rfl rfl (fun _ => by kernel_rfl) rfl (by decide) (fun b7 => ?_)
        refine ⟨fun w' s => (s.sl [1, 8, 10]), ?_⟩
        refine AL.any (rs := [11]) (by kernel_rfl) (by decide) ?_
        refine ALs.cons (i := 11) rfl (Runs.free rfl) rfl rfl ?_ ?_
        ·
         obtain ⟨l20, e21, hm⟩ := bind_some hm
         refine os_app (i := 7) (j := 0) (En := encCell) (xs := xs16) (ys := [(.int .u8 x11.first), (.int .u8 x11.second)]) underlying78 (by kernel_rfl : (prog.info? 80).map (fun i => (i.zero, i.size, i.bytes)) = some (some (.agg #[(.int .u8 0), (.int .u8 0)]), (encCell).size, 2)) rfl (by decide) rfl rfl rfl rfl rfl rfl rl25 rl31 e21 (fun ao23 cap23 rl32 => ?_)
         refine ⟨fun w' s => (s.sl [1, 8, 10]), ?_⟩
         refine TQ' 12 rfl (ov_indexAddr_bsl (j := 0) underlying76 sizeOf78 rfl rfl rfl (eq_of_beq hc8) rfl) ?_
         refine AL.any (rs := [13]) (by kernel_rfl) (by decide) ?_
         refine ALs.cons0 (i := 13) rfl (Runs.free rfl) rfl ?_ ?_
         ·
          refine os_store (i := 9) (vs := [(.slice ao23 (l14 ++ ([x11] : List Cell)).length cap23)]) (cs' := [(.slice ao23 (l14 ++ ([x11] : List Cell)).length cap23), (.slice ao18 l15.length cap18), (.slice ao19 l16.length cap19), (.slice ao20 l17.length cap20), (.slice ao21 l18.length cap21), (.slice ao22 l19.length cap22)]) sizeOf78 rfl rfl rfl rfl rfl rfl rfl rfl rfl ?_
          refine ⟨fun w' s => (s.sl [1, 8, 10]), ?_⟩
          refine AL.done (by kernel_rfl) ?_
          refine bn (tn (WP.region (V rfl (ov_add rfl rfl rfl) (Vm rfl (WL.nil (tn ?_))))))
          exact ⟨(IntKind.wrap .i64 (i4 + 1)), (l14 ++ ([x11] : List Cell)), ao23, cap23, (xs16 ++ [(.int .u8 x11.first), (.int .u8 x11.second)]), l15, ao18, cap18, xs17, l16, ao19, cap19, xs18, l17, ao20, cap20, xs19, l18, ao21, cap21, xs20, l19, ao22, cap22, xs21, rl32, rl26, rl27, rl28, rl29, rl30, (Sub.all rfl), fun w' s => (s.sl [1, 2, 3, 4, 5, 6, 7, 8, 9, 10]), hm⟩
         exact ALs.nil
        exact ALs.nil
       exact ALs.nil
      refine ALs.cons (i := 10) rfl (Runs.free rfl) rfl rfl ?_ ?_
      ·
       have rl31 : RL H encCell ([x11] : List Cell) [(.int .u8 x11.first), (.int .u8 x11.second)] := RL.cons (cs := [(.int .u8 x11.first), (.int .u8 x11.second)]) (xs := []) rfl (RL.nil _ _)
       refine os_buildSlice (cs := [(.int .u8 x11.first), (.int .u8 x11.second)]) (E := 80) (sz := 2) rfl rfl (fun _ => by kernel_rfl) rfl (by decide) (fun b7 => ?_)
       refine ⟨fun w' s => (s.sl [1, 8, 10]), ?_⟩
       refine AL.any (rs := [5]) (by kernel_rfl) (by decide) ?_
       refine ALs.cons (i := 5) rfl (Runs.free rfl) rfl rfl ?_ ?_
       ·
        refine OQ.step (OV.quiet (ov_load_box (i := 9) isAgg78 rfl rfl rfl rfl)) ?_
        refine ⟨fun w' s => (s.sl [1, 8, 10]), ?_⟩
        refine AL.any (rs := [11]) (by kernel_rfl) (by decide) ?_
        refine ALs.cons (i := 11) rfl (Runs.free rfl) rfl rfl ?_ ?_
        ·
         obtain ⟨l20, e21, hm⟩ := bind_some hm
         refine os_app (i := 7) (j := 0) (En := encCell) (xs := xs16) (ys := [(.int .u8 x11.first), (.int .u8 x11.second)]) underlying78 (by kernel_rfl : (prog.info? 80).map (fun i => (i.zero, i.size, i.bytes)) = some (some (.agg #[(.int .u8 0), (.int .u8 0)]), (encCell).size, 2)) rfl (by decide) rfl rfl rfl rfl rfl rfl rl25 rl31 e21 (fun ao23 cap23 rl32 => ?_)
         refine ⟨fun w' s => (s.sl [1, 8, 10]), ?_⟩
         refine TQ' 12 rfl (ov_indexAddr_bsl (j := 0) underlying76 sizeOf78 rfl rfl rfl (eq_of_beq hc8) rfl) ?_
         refine AL.any (rs := [13]) (by kernel_rfl) (by decide) ?_
         refine ALs.cons0 (i := 13) rfl (Runs.free rfl) rfl ?_ ?_
         ·
          refine os_store (i := 9) (vs := [(.slice ao23 (l14 ++ ([x11] : List Cell)).length cap23)]) (cs' := [(.slice ao23 (l14 ++ ([x11] : List Cell)).length cap23), (.slice ao18 l15.length cap18), (.slice ao19 l16.length cap19), (.slice ao20 l17.length cap20), (.slice ao21 l18.length cap21), (.slice ao22 l19.length cap22)]) sizeOf78 rfl rfl rfl rfl rfl rfl rfl rfl rfl ?_
          refine ⟨fun w' s => (s.sl [1, 8, 10]), ?_⟩
          refine AL.done (by kernel_rfl) ?_
          refine bn (tn (WP.region (V rfl (ov_add rfl rfl rfl) (Vm rfl (WL.nil (tn ?_))))))
          exact ⟨(IntKind.wrap .i64 (i4 + 1)), (l14 ++ ([x11] : List Cell)), ao23, cap23, (xs16 ++ [(.int .u8 x11.first), (.int .u8 x11.second)]), l15, ao18, cap18, xs17, l16, ao19, cap19, xs18, l17, ao20, cap20, xs19, l18, ao21, cap21, xs20, l19, ao22, cap22, xs21, rl32, rl26, rl27, rl28, rl29, rl30, (Sub.all rfl), fun w' s => (s.sl [1, 2, 3, 4, 5, 6, 7, 8, 9, 10]), hm⟩
         exact ALs.nil
        exact ALs.nil
       exact ALs.nil
      exact ALs.nil
     replace hm := ite_f hc8 hm
     rcases Bool.eq_false_or_eq_true (i4 == 1) with hc9 | hc9
     ·
      replace hm := ite_t hc9 hm
      refine TQ' 4 rfl (ov_indexAddr_bsl (j := 1) underlying76 sizeOf78 rfl rfl rfl (eq_of_beq hc9) rfl) (TQ' 6 rfl (ov_move rfl rfl) (TQ' 7 rfl (ov_move rfl rfl) ?_))
      obtain ⟨x12, e22, hm⟩ := bind_some hm
      obtain ⟨h74, h75, h76, cs15, h77, h78⟩ := RL.get rl24 e22
      obtain rfl : cs15 = [(.int .u8 x12.first), (.int .u8 x12.second)] := h77
      refine TQ' 8 rfl (ov_indexAddr_own (i := 0) underlying78 sizeOf80 rfl rfl rfl rfl h74 h75) (TQ' 9 rfl (ov_load_owns (i := 0) (vs := [(.int .u8 x12.first), (.int .u8 x12.second)]) isAgg80 sizeOf80 rfl rfl rfl (own_pos h74 h75) rfl (fun j u hu => elem_cell h78 hu)) ?_)
      refine AL.any (rs := [5, 10]) (by kernel_rfl) (by decide) ?_
      refine ALs.cons (i := 5) rfl (Runs.free rfl) rfl rfl ?_ ?_
      ·
       refine OQ.step (OV.quiet (ov_load_box (i := 8) isAgg78 rfl rfl rfl rfl)) ?_
       refine ⟨fun w' s => (s.sl [0, 7, 9]), ?_⟩
       refine AL.any (rs := [10]) (by kernel_rfl) (by decide) ?_
       refine ALs.cons (i := 10) rfl (Runs.free rfl) rfl rfl ?_ ?_
       ·
        have rl33 : RL H encCell ([x12] : List Cell) [(.int .u8 x12.first), (.int .u8 x12.second)] := RL.cons (cs := [(.int .u8 x12.first), (.int .u8 x12.second)]) (xs := []) rfl (RL.nil _ _)
        refine os_buildSlice (cs := [(.int .u8 x12.first), (.int .u8 x12.second)]) (E := 80) (sz := 2) rfl rfl (fun _ => by kernel_rfl) rfl (by decide) (fun b8 => ?_)
        refine ⟨fun w' s => (s.sl [1, 8, 10]), ?_⟩
        refine AL.any (rs := [11]) (by kernel_rfl) (by decide) ?_
        refine ALs.cons (i := 11) rfl (Runs.free rfl) rfl rfl ?_ ?_
        ·
         obtain ⟨l21, e23, hm⟩ := bind_some hm
         refine os_app (i := 6) (j := 0) (En := encCell) (xs := xs17) (ys := [(.int .u8 x12.first), (.int .u8 x12.second)]) underlying78 (by kernel_rfl : (prog.info? 80).map (fun i => (i.zero, i.size, i.bytes)) = some (some (.agg #[(.int .u8 0), (.int .u8 0)]), (encCell).size, 2)) rfl (by decide) rfl rfl rfl rfl rfl rfl rl26 rl33 e23 (fun ao24 cap24 rl34 => ?_)
         refine ⟨fun w' s => (s.sl [1, 8, 10]), ?_⟩
         refine TQ' 12 rfl (ov_indexAddr_bsl (j := 1) underlying76 sizeOf78 rfl rfl rfl (eq_of_beq hc9) rfl) ?_
         refine AL.any (rs := [13]) (by kernel_rfl) (by decide) ?_
         refine ALs.cons0 (i := 13) rfl (Runs.free rfl) rfl ?_ ?_
         ·
          refine os_store (i := 9) (vs := [(.slice ao24 (l15 ++ ([x12] : List Cell)).length cap24)]) (cs' := [(.slice ao17 l14.length cap17), (.slice ao24 (l15 ++ ([x12] : List Cell)).length cap24), (.slice ao19 l16.length cap19), (.slice ao20 l17.length cap20), (.slice ao21 l18.length cap21), (.slice ao22 l19.length cap22)]) sizeOf78 rfl rfl rfl rfl rfl rfl rfl rfl rfl ?_
          refine ⟨fun w' s => (s.sl [1, 8, 10]), ?_⟩
          refine AL.done (by kernel_rfl) ?_
          refine bn (tn (WP.region (V rfl (ov_add rfl rfl rfl) (Vm rfl (WL.nil (tn ?_))))))
          exact ⟨(IntKind.wrap .i64 (i4 + 1)), l14, ao17, cap17, xs16, (l15 ++ ([x12] : List Cell)), ao24, cap24, (xs17 ++ [(.int .u8 x12.first), (.int .u8 x12.second)]), l16, ao19, cap19, xs18, l17, ao20, cap20, xs19, l18, ao21, cap21, xs20, l19, ao22, cap22, xs21, rl25, rl34, rl27, rl28, rl29, rl30, (Sub.all rfl), fun w' s => (s.sl [1, 2, 3, 4, 5, 6, 7, 8, 9, 10]), hm⟩
         exact ALs.nil
        exact ALs.nil
       exact ALs.nil
      refine ALs.cons (i := 10) rfl (Runs.free rfl) rfl rfl ?_ ?_
      ·
       have rl33 : RL H encCell ([x12] : List Cell) [(.int .u8 x12.first), (.int .u8 x12.second)] := RL.cons (cs := [(.int .u8 x12.first), (.int .u8 x12.second)]) (xs := []) rfl (RL.nil _ _)
       refine os_buildSlice (cs := [(.int .u8 x12.first), (.int .u8 x12.second)]) (E := 80) (sz := 2) rfl rfl (fun _ => by kernel_rfl) rfl (by decide) (fun b8 => ?_)
       refine ⟨fun w' s => (s.sl [1, 8, 10]), ?_⟩
       refine AL.any (rs := [5]) (by kernel_rfl) (by decide) ?_
       refine ALs.cons (i := 5) rfl (Runs.free rfl) rfl rfl ?_ ?_
       ·
        refine OQ.step (OV.quiet (ov_load_box (i := 9) isAgg78 rfl rfl rfl rfl)) ?_
        refine ⟨fun w' s => (s.sl [1, 8, 10]), ?_⟩
        refine AL.any (rs := [11]) (by kernel_rfl) (by decide) ?_
        refine ALs.cons (i := 11) rfl (Runs.free rfl) rfl rfl ?_ ?_
        ·
         obtain ⟨l21, e23, hm⟩ := bind_some hm
         refine os_app (i := 6) (j := 0) (En := encCell) (xs := xs17) (ys := [(.int .u8 x12.first), (.int .u8 x12.second)]) underlying78 (by kernel_rfl : (prog.info? 80).map (fun i => (i.zero, i.size, i.bytes)) = some (some (.agg #[(.int .u8 0), (.int .u8 0)]), (encCell).size, 2)) rfl (by decide) rfl rfl rfl rfl rfl rfl rl26 rl33 e23 (fun ao24 cap24 rl34 => ?_)
         refine ⟨fun w' s => (s.sl [1, 8, 10]), ?_⟩
         refine TQ' 12 rfl (ov_indexAddr_bsl (j := 1) underlying76 sizeOf78 rfl rfl rfl (eq_of_beq hc9) rfl) ?_
         refine AL.any (rs := [13]) (by kernel_rfl) (by decide) ?_
         refine ALs.cons0 (i := 13) rfl (Runs.free rfl) rfl ?_ ?_
         ·
          refine os_store (i := 9) (vs := [(.slice ao24 (l15 ++ ([x12] : List Cell)).length cap24)]) (cs' := [(.slice ao17 l14.length cap17), (.slice ao24 (l15 ++ ([x12] : List Cell)).length cap24), (.slice ao19 l16.length cap19), (.slice ao20 l17.length cap20), (.slice ao21 l18.length cap21), (.slice ao22 l19.length cap22)]) sizeOf78 rfl rfl rfl rfl rfl rfl rfl rfl rfl ?_
          refine ⟨fun w' s => (s.sl [1, 8, 10]), ?_⟩
          refine AL.done (by kernel_rfl) ?_
          refine bn (tn (WP.region (V rfl (ov_add rfl rfl rfl) (Vm rfl (WL.nil (tn ?_))))))
          exact ⟨(IntKind.wrap .i64 (i4 + 1)), l14, ao17, cap17, xs16, (l15 ++ ([x12] : List Cell)), ao24, cap24, (xs17 ++ [(.int .u8 x12.first), (.int .u8 x12.second)]), l16, ao19, cap19, xs18, l17, ao20, cap20, xs19, l18, ao21, cap21, xs20, l19, ao22, cap22, xs21, rl25, rl34, rl27, rl28, rl29, rl30, (Sub.all rfl), fun w' s => (s.sl [1, 2, 3, 4, 5, 6, 7, 8, 9, 10]), hm⟩
         exact ALs.nil
        exact ALs.nil
       exact ALs.nil
      exact ALs.nil
     replace hm := ite_f hc9 hm
     rcases Bool.eq_false_or_eq_true (i4 == 2) with hc10 | hc10
     ·
      replace hm := ite_t hc10 hm
      refine TQ' 4 rfl (ov_indexAddr_bsl (j := 2) underlying76 sizeOf78 rfl rfl rfl (eq_of_beq hc10) rfl) (TQ' 6 rfl (ov_move rfl rfl) (TQ' 7 rfl (ov_move rfl rfl) ?_))
      obtain ⟨x13, e24, hm⟩ := bind_some hm
      obtain ⟨h79, h80, h81, cs16, h82, h83⟩ := RL.get rl24 e24
      obtain rfl : cs16 = [(.int .u8 x13.first), (.int .u8 x13.second)] := h82
      refine TQ' 8 rfl (ov_indexAddr_own (i := 0) underlying78 sizeOf80 rfl rfl rfl rfl h79 h80) (TQ' 9 rfl (ov_load_owns (i := 0) (vs := [(.int .u8 x13.first), (.int .u8 x13.second)]) isAgg80 sizeOf80 rfl rfl rfl (own_pos h79 h80) rfl (fun j u hu => elem_cell h83 hu)) ?_)
      refine AL.any (rs := [5, 10]) (by kernel_rfl) (by decide) ?_
      refine ALs.cons (i := 5) rfl (Runs.free rfl) rfl rfl ?_ ?_
      ·
       refine OQ.step (OV.quiet (ov_load_box (i := 8) isAgg78 rfl rfl rfl rfl)) ?_
       refine ⟨fun w' s => (s.sl [0, 7, 9]), ?_⟩
       refine AL.any (rs := [10]) (by kernel_rfl) (by decide) ?_
       refine ALs.cons (i := 10) rfl (Runs.free rfl) rfl rfl ?_ ?_
       ·
        have rl35 : RL H encCell ([x13] : List Cell) [(.int .u8 x13.first), (.int .u8 x13.second)] := RL.cons (cs := [(.int .u8 x13.first), (.int .u8 x13.second)]) (xs := []) rfl (RL.nil _ _)
        refine os_buildSlice (cs := [(.int .u8 x13.first), (.int .u8 x13.second)]) (E := 80) (sz := 2) rfl rfl (fun _ => by kernel_rfl) rfl (by decide) (fun b9 => ?_)
        refine ⟨fun w' s => (s.sl [1, 8, 10]), ?_⟩
        refine AL.any (rs := [11]) (by kernel_rfl) (by decide) ?_
        refine ALs.cons (i := 11) rfl (Runs.free rfl) rfl rfl ?_ ?_
        ·
         obtain ⟨l22, e25, hm⟩ := bind_some hm
         refine os_app (i := 5) (j := 0) (En := encCell) (xs := xs18) (ys := [(.int .u8 x13.first), (.int .u8 x13.second)]) underlying78 (by kernel_rfl : (prog.info? 80).map (fun i => (i.zero, i.size, i.bytes)) = some (some (.agg #[(.int .u8 0), (.int .u8 0)]), (encCell).size, 2)) rfl (by decide) rfl rfl rfl rfl rfl rfl rl27 rl35 e25 (fun ao25 cap25 rl36 => ?_)
         refine ⟨fun w' s => (s.sl [1, 8, 10]), ?_⟩
         refine TQ' 12 rfl (ov_indexAddr_bsl (j := 2) underlying76 sizeOf78 rfl rfl rfl (eq_of_beq hc10) rfl) ?_
         refine AL.any (rs := [13]) (by kernel_rfl) (by decide) ?_
         refine ALs.cons0 (i := 13) rfl (Runs.free rfl) rfl ?_ ?_
         ·
          refine os_store (i := 9) (vs := [(.slice ao25 (l16 ++ ([x13] : List Cell)).length cap25)]) (cs' := [(.slice ao17 l14.length cap17), (.slice ao18 l15.length cap18), (.slice ao25 (l16 ++ ([x13] : List Cell)).length cap25), (.slice ao20 l17.length cap20), (.slice ao21 l18.length cap21), (.slice ao22 l19.length cap22)]) sizeOf78 rfl rfl rfl rfl rfl rfl rfl rfl rfl ?_
          refine ⟨fun w' s => (s.sl [1, 8, 10]), ?_⟩
          refine AL.done (by kernel_rfl) ?_
          refine bn (tn (WP.region (V rfl (ov_add rfl rfl rfl) (Vm rfl (WL.nil (tn ?_))))))
          exact ⟨(IntKind.wrap .i64 (i4 + 1)), l14, ao17, cap17, xs16, l15, ao18, cap18, xs17, (l16 ++ ([x13] : List Cell)), ao25, cap25, (xs18 ++ [(.int .u8 x13.first), (.int .u8 x13.second)]), l17, ao20, cap20, xs19, l18, ao21, cap21, xs20, l19, ao22, cap22, xs21, rl25, rl26, rl36, rl28, rl29, rl30, (Sub.all rfl), fun w' s => (s.sl [1, 2, 3, 4, 5, 6, 7, 8, 9, 10]), hm⟩
         exact ALs.nil
        exact ALs.nil
       exact ALs.nil
      refine ALs.cons (i := 10) rfl (Runs.free rfl) rfl rfl ?_ ?_
      ·
       have rl35 : RL H encCell ([x13] : List Cell) [(.int .u8 x13.first), (.int .u8 x13.second)] := RL.cons (cs := [(.int .u8 x13.first), (.int .u8 x13.second)]) (xs := []) rfl (RL.nil _ _)
       refine os_buildSlice (cs := [(.int .u8 x13.first), (.int .u8 x13.second)]) (E := 80) (sz := 2) rfl rfl (fun _ => by kernel_rfl) rfl (by decide) (fun b9 => ?_)
       refine ⟨fun w' s => (s.sl [1, 8, 10]), ?_⟩
       refine AL.any (rs := [5]) (by kernel_rfl) (by decide) ?_
       refine ALs.cons (i := 5) rfl (Runs.free rfl) rfl rfl ?_ ?_
       ·
        refine OQ.step (OV.quiet (ov_load_box (i := 9) isAgg78 rfl rfl rfl rfl)) ?_
        refine ⟨fun w' s => (s.sl [1, 8, 10]), ?_⟩
        refine AL.any (rs := [11]) (by kernel_rfl) (by decide) ?_
        refine ALs.cons (i := 11) rfl (Runs.free rfl) rfl rfl ?_ ?_
        ·
         obtain ⟨l22, e25, hm⟩ := bind_some hm
         refine os_app (i := 5) (j := 0) (En := encCell) (xs := xs18) (ys := [(.int .u8 x13.first), (.int .u8 x13.second)]) underlying78 (by kernel_rfl : (prog.info? 80).map (fun i => (i.zero, i.size, i.bytes)) = some (some (.agg #[(.int .u8 0), (.int .u8 0)]), (encCell).size, 2)) rfl (by decide) rfl rfl rfl rfl rfl rfl rl27 rl35 e25 (fun ao25 cap25 rl36 => ?_)
         refine ⟨fun w' s => (s.sl [1, 8, 10]), ?_⟩
         refine TQ' 12 rfl (ov_indexAddr_bsl (j := 2) underlying76 sizeOf78 rfl rfl rfl (eq_of_beq hc10) rfl) ?_
         refine AL.any (rs := [13]) (by kernel_rfl) (by decide) ?_
         refine ALs.cons0 (i := 13) rfl (Runs.free rfl) rfl ?_ ?_
         ·
          refine os_store (i := 9) (vs := [(.slice ao25 (l16 ++ ([x13] : List Cell)).length cap25)]) (cs' := [(.slice ao17 l14.length cap17), (.slice ao18 l15.length cap18), (.slice ao25 (l16 ++ ([x13] : List Cell)).length cap25), (.slice ao20 l17.length cap20), (.slice ao21 l18.length cap21), (.slice ao22 l19.length cap22)]) sizeOf78 rfl rfl rfl rfl rfl rfl rfl rfl rfl ?_
          refine ⟨fun w' s => (s.sl [1, 8, 10]), ?_⟩
          refine AL.done (by kernel_rfl) ?_
          refine bn (tn (WP.region (V rfl (ov_add rfl rfl rfl) (Vm rfl (WL.nil (tn ?_))))))
          exact ⟨(IntKind.wrap .i64 (i4 + 1)), l14, ao17, cap17, xs16, l15, ao18, cap18, xs17, (l16 ++ ([x13] : List Cell)), ao25, cap25, (xs18 ++ [(.int .u8 x13.first), (.int .u8 x13.second)]), l17, ao20, cap20, xs19, l18, ao21, cap21, xs20, l19, ao22, cap22, xs21, rl25, rl26, rl36, rl28, rl29, rl30, (Sub.all rfl), fun w' s => (s.sl [1, 2, 3, 4, 5, 6, 7, 8, 9, 10]), hm⟩
         exact ALs.nil
        exact ALs.nil
       exact ALs.nil
      exact ALs.nil
     replace hm := ite_f hc10 hm
     rcases Bool.eq_false_or_eq_true (i4 == 3) with hc11 | hc11
     ·
      replace hm := ite_t hc11 hm
      refine TQ' 4 rfl (ov_indexAddr_bsl (j := 3) underlying76 sizeOf78 rfl rfl rfl (eq_of_beq hc11) rfl) (TQ' 6 rfl (ov_move rfl rfl) (TQ' 7 rfl (ov_move rfl rfl) ?_))
      obtain ⟨x14, e26, hm⟩ := bind_some hm
      obtain ⟨h84, h85, h86, cs17, h87, h88⟩ := RL.get rl24 e26
      obtain rfl : cs17 = [(.int .u8 x14.first), (.int .u8 x14.second)] := h87
      refine TQ' 8 rfl (ov_indexAddr_own (i := 0) underlying78 sizeOf80 rfl rfl rfl rfl h84 h85) (TQ' 9 rfl (ov_load_owns (i := 0) (vs := [(.int .u8 x14.first), (.int .u8 x14.second)]) isAgg80 sizeOf80 rfl rfl rfl (own_pos h84 h85) rfl (fun j u hu => elem_cell h88 hu)) ?_)
      refine AL.any (rs := [5, 10]) (by kernel_rfl) (by decide) ?_
      refine ALs.cons (i := 5) rfl (Runs.free rfl) rfl rfl ?_ ?_
      ·
       refine OQ.step (OV.quiet (ov_load_box (i := 8) isAgg78 rfl rfl rfl rfl)) ?_
       refine ⟨fun w' s => (s.sl [0, 7, 9]), ?_⟩
       refine AL.any (rs := [10]) (by kernel_rfl) (by decide) ?_
       refine ALs.cons (i := 10) rfl (Runs.free rfl) rfl rfl ?_ ?_
       ·
        have rl37 : RL H encCell ([x14] : List Cell) [(.int .u8 x14.first), (.int .u8 x14.second)] := RL.cons (cs := [(.int .u8 x14.first), (.int .u8 x14.second)]) (xs := []) rfl (RL.nil _ _)
        refine os_buildSlice (cs := [(.int .u8 x14.first), (.int .u8 x14.second)]) (E := 80) (sz := 2) rfl rfl (fun _ => by kernel_rfl) rfl (by decide) (fun b10 => ?_)
        refine ⟨fun w' s => (s.sl [1, 8, 10]), ?_⟩
        refine AL.any (rs := [11]) (by kernel_rfl) (by decide) ?_
        refine ALs.cons (i := 11) rfl (Runs.free rfl) rfl rfl ?_ ?_
        ·
         obtain ⟨l23, e27, hm⟩ := bind_some hm
         refine os_app (i := 4) (j := 0) (En := encCell) (xs := xs19) (ys := [(.int .u8 x14.first), (.int .u8 x14.second)]) underlying78 (by kernel_rfl : (prog.info? 80).map (fun i => (i.zero, i.size, i.bytes)) = some (some (.agg #[(.int .u8 0), (.int .u8 0)]), (encCell).size, 2)) rfl (by decide) rfl rfl rfl rfl rfl rfl rl28 rl37 e27 (fun ao26 cap26 rl38 => ?_)
         refine ⟨fun w' s => (s.sl [1, 8, 10]), ?_⟩
         refine TQ' 12 rfl (ov_indexAddr_bsl (j := 3) underlying76 sizeOf78 rfl rfl rfl (eq_of_beq hc11) rfl) ?_
         refine AL.any (rs := [13]) (by kernel_rfl) (by decide) ?_
         refine ALs.cons0 (i := 13) rfl (Runs.free rfl) rfl ?_ ?_
         ·
          refine os_store (i := 9) (vs := [(.slice ao26 (l17 ++ ([x14] : List Cell)).length cap26)]) (cs' := [(.slice ao17 l14.length cap17), (.slice ao18 l15.length cap18), (.slice ao19 l16.length cap19), (.slice ao26 (l17 ++ ([x14] : List Cell)).length cap26), (.slice ao21 l18.length cap21), (.slice ao22 l19.length cap22)]) sizeOf78 rfl rfl rfl rfl rfl rfl rfl rfl rfl ?_
          refine ⟨fun w' s => (s.sl [1, 8, 10]), ?_⟩
          refine AL.done (by kernel_rfl) ?_
          refine bn (tn (WP.region (V rfl (ov_add rfl rfl rfl) (Vm rfl (WL.nil (tn ?_))))))
          exact ⟨(IntKind.wrap .i64 (i4 + 1)), l14, ao17, cap17, xs16, l15, ao18, cap18, xs17, l16, ao19, cap19, xs18, (l17 ++ ([x14] : List Cell)), ao26, cap26, (xs19 ++ [(.int .u8 x14.first), (.int .u8 x14.second)]), l18, ao21, cap21, xs20, l19, ao22, cap22, xs21, rl25, rl26, rl27, rl38, rl29, rl30, (Sub.all rfl), fun w' s => (s.sl [1, 2, 3, 4, 5, 6, 7, 8, 9, 10]), hm⟩
         exact ALs.nil
        exact ALs.nil
       exact ALs.nil
      refine ALs.cons (i := 10) rfl (Runs.free rfl) rfl rfl ?_ ?_
      ·
       have rl37 : RL H encCell ([x14] : List Cell) [(.int .u8 x14.first), (.int .u8 x14.second)] := RL.cons (cs := [(.int .u8 x14.first), (.int .u8 x14.second)]) (xs := []) rfl (RL.nil _ _)
       refine os_buildSlice (cs := [(.int .u8 x14.first), (.int .u8 x14.second)]) (E := 80) (sz := 2) rfl rfl (fun _ => by kernel_rfl) rfl (by decide) (fun b10 => ?_)
       refine ⟨fun w' s => (s.sl [1, 8, 10]), ?_⟩
       refine AL.any (rs := [5]) (by kernel_rfl) (by decide) ?_
       refine ALs.cons (i := 5) rfl (Runs.free rfl) rfl rfl ?_ ?_
       ·
        refine OQ.step (OV.quiet (ov_load_box (i := 9) isAgg78 rfl rfl rfl rfl)) ?_
        refine ⟨fun w' s => (s.sl [1, 8, 10]), ?_⟩
        refine AL.any (rs := [11]) (by kernel_rfl) (by decide) ?_
        refine ALs.cons (i := 11) rfl (Runs.free rfl) rfl rfl ?_ ?_
        ·
         obtain ⟨l23, e27, hm⟩ := bind_some hm
         refine os_app (i := 4) (j := 0) (En := encCell) (xs := xs19) (ys := [(.int .u8 x14.first), (.int .u8 x14.second)]) underlying78 (by kernel_rfl : (prog.info? 80).map (fun i => (i.zero, i.size, i.bytes)) = some (some (.agg #[(.int .u8 0), (.int .u8 0)]), (encCell).size, 2)) rfl (by decide) rfl rfl rfl rfl rfl rfl rl28 rl37 e27 (fun ao26 cap26 rl38 => ?_)
         refine ⟨fun w' s => (s.sl [1, 8, 10]), ?_⟩
         refine TQ' 12 rfl (ov_indexAddr_bsl (j := 3) underlying76 sizeOf78 rfl rfl rfl (eq_of_beq hc11) rfl) ?_
         refine AL.any (rs := [13]) (by kernel_rfl) (by decide) ?_
         refine ALs.cons0 (i := 13) rfl (Runs.free rfl) rfl ?_ ?_
         ·
          refine os_store (i := 9) (vs := [(.slice ao26 (l17 ++ ([x14] : List Cell)).length cap26)]) (cs' := [(.slice ao17 l14.length cap17), (.slice ao18 l15.length cap18), (.slice ao19 l16.length cap19), (.slice ao26 (l17 ++ ([x14] : List Cell)).length cap26), (.slice ao21 l18.length cap21), (.slice ao22 l19.length cap22)]) sizeOf78 rfl rfl rfl rfl rfl rfl rfl rfl rfl ?_
          refine ⟨fun w' s => (s.sl [1, 8, 10]), ?_⟩
          refine AL.done (by kernel_rfl) ?_
          refine bn (tn (WP.region (V rfl (ov_add rfl rfl rfl) (Vm rfl (WL.nil (tn ?_))))))
          exact ⟨(IntKind.wrap .i64 (i4 + 1)), l14, ao17, cap17, xs16, l15, ao18, cap18, xs17, l16, ao19, cap19, xs18, (l17 ++ ([x14] : List Cell)), ao26, cap26, (xs19 ++ [(.int .u8 x14.first), (.int .u8 x14.second)]), l18, ao21, cap21, xs20, l19, ao22, cap22, xs21, rl25, rl26, rl27, rl38, rl29, rl30, (Sub.all rfl), fun w' s => (s.sl [1, 2, 3, 4, 5, 6, 7, 8, 9, 10]), hm⟩
         exact ALs.nil
        exact ALs.nil
       exact ALs.nil
      exact ALs.nil
     replace hm := ite_f hc11 hm
     rcases Bool.eq_false_or_eq_true (i4 == 4) with hc12 | hc12
     ·
      replace hm := ite_t hc12 hm
      refine TQ' 4 rfl (ov_indexAddr_bsl (j := 4) underlying76 sizeOf78 rfl rfl rfl (eq_of_beq hc12) rfl) (TQ' 6 rfl (ov_move rfl rfl) (TQ' 7 rfl (ov_move rfl rfl) ?_))
      obtain ⟨x15, e28, hm⟩ := bind_some hm
      obtain ⟨h89, h90, h91, cs18, h92, h93⟩ := RL.get rl24 e28
      obtain rfl : cs18 = [(.int .u8 x15.first), (.int .u8 x15.second)] := h92
      refine TQ' 8 rfl (ov_indexAddr_own (i := 0) underlying78 sizeOf80 rfl rfl rfl rfl h89 h90) (TQ' 9 rfl (ov_load_owns (i := 0) (vs := [(.int .u8 x15.first), (.int .u8 x15.second)]) isAgg80 sizeOf80 rfl rfl rfl (own_pos h89 h90) rfl (fun j u hu => elem_cell h93 hu)) ?_)
      refine AL.any (rs := [5, 10]) (by kernel_rfl) (by decide) ?_
      refine ALs.cons (i := 5) rfl (Runs.free rfl) rfl rfl ?_ ?_
      ·
       refine OQ.step (OV.quiet (ov_load_box (i := 8) isAgg78 rfl rfl rfl rfl)) ?_
       refine ⟨fun w' s => (s.sl [0, 7, 9]), ?_⟩
       refine AL.any (rs := [10]) (by kernel_rfl) (by decide) ?_
       refine ALs.cons (i := 10) rfl (Runs.free rfl) rfl rfl ?_ ?_
       ·
        have rl39 : RL H encCell ([x15] : List Cell) [(.int .u8 x15.first), (.int .u8 x15.second)] := RL.cons (cs := [(.int .u8 x15.first), (.int .u8 x15.second)]) (xs := []) rfl (RL.nil _ _)
        refine os_buildSlice (cs := [(.int .u8 x15.first), (.int .u8 x15.second)]) (E := 80) (sz := 2) rfl rfl (fun _ => by kernel_rfl) rfl (by decide) (fun b11 => ?_)
        refine ⟨fun w' s => (s.sl [1, 8, 10]), ?_⟩
        refine AL.any (rs := [11]) (by kernel_rfl) (by decide) ?_
        refine ALs.cons (i := 11) rfl (Runs.free rfl) rfl rfl ?_ ?_
        ·
         obtain ⟨l24, e29, hm⟩ := bind_some hm
         refine os_app (i := 3) (j := 0) (En := encCell) (xs := xs20) (ys := [(.int .u8 x15.first), (.int .u8 x15.second)]) underlying78 (by kernel_rfl : (prog.info? 80).map (fun i => (i.zero, i.size, i.bytes)) = some (some (.agg #[(.int .u8 0), (.int .u8 0)]), (encCell).size, 2)) rfl (by decide) rfl rfl rfl rfl rfl rfl rl29 rl39 e29 (fun ao27 cap27 rl40 => ?_)
         refine ⟨fun w' s => (s.sl [1, 8, 10]), ?_⟩
         refine TQ' 12 rfl (ov_indexAddr_bsl (j := 4) underlying76 sizeOf78 rfl rfl rfl (eq_of_beq hc12) rfl) ?_
         refine AL.any (rs := [13]) (by kernel_rfl) (by decide) ?_
         refine ALs.cons0 (i := 13) rfl (Runs.free rfl) rfl ?_ ?_
         ·
          refine os_store (i := 9) (vs := [(.slice ao27 (l18 ++ ([x15] : List Cell)).length cap27)]) (cs' := [(.slice ao17 l14.length cap17), (.slice ao18 l15.length cap18), (.slice ao19 l16.length cap19), (.slice ao20 l17.length cap20), (.slice ao27 (l18 ++ ([x15] : List Cell)).length cap27), (.slice ao22 l19.length cap22)]) sizeOf78 rfl rfl rfl rfl rfl rfl rfl rfl rfl ?_
          refine ⟨fun w' s => (s.sl [1, 8, 10]), ?_⟩
          refine AL.done (by kernel_rfl) ?_
          refine bn (tn (WP.region (V rfl (ov_add rfl rfl rfl) (Vm rfl (WL.nil (tn ?_))))))
          exact ⟨(IntKind.wrap .i64 (i4 + 1)), l14, ao17, cap17, xs16, l15, ao18, cap18, xs17, l16, ao19, cap19, xs18, l17, ao20, cap20, xs19, (l18 ++ ([x15] : List Cell)), ao27, cap27, (xs20 ++ [(.int .u8 x15.first), (.int .u8 x15.second)]), l19, ao22, cap22, xs21, rl25, rl26, rl27, rl28, rl40, rl30, (Sub.all rfl), fun w' s => (s.sl [1, 2, 3, 4, 5, 6, 7, 8, 9, 10]), hm⟩
         exact ALs.nil
        exact ALs.nil
       exact ALs.nil
      refine ALs.cons (i := 10) rfl (Runs.free rfl) rfl rfl ?_ ?_
      ·
       have rl39 : RL H encCell ([x15] : List Cell) [(.int .u8 x15.first), (.int .u8 x15.second)] := RL.cons (cs := [(.int .u8 x15.first), (.int .u8 x15.second)]) (xs := []) rfl (RL.nil _ _)
       refine os_buildSlice (cs := [(.int .u8 x15.first), (.int .u8 x15.second)]) (E := 80) (sz := 2) rfl rfl (fun _ => by kernel_rfl) rfl (by decide) (fun b11 => ?_)
       refine ⟨fun w' s => (s.sl [1, 8, 10]), ?_⟩
       refine AL.any (rs := [5]) (by kernel_rfl) (by decide) ?_
       refine ALs.cons (i := 5) rfl (Runs.free rfl) rfl rfl ?_ ?_
       ·
        refine OQ.step (OV.quiet (ov_load_box (i := 9) isAgg78 rfl rfl rfl rfl)) ?_
        refine ⟨fun w' s => (s.sl [1, 8, 10]), ?_⟩
        refine AL.any (rs := [11]) (by kernel_rfl) (by decide) ?_
        refine ALs.cons (i := 11) rfl (Runs.free rfl) rfl rfl ?_ ?_
        ·
         obtain ⟨l24, e29, hm⟩ := bind_some hm
         refine os_app (i := 3) (j := 0) (En := encCell) (xs := xs20) (ys := [(.int .u8 x15.first), (.int .u8 x15.second)]) underlying78 (by kernel_rfl : (prog.info? 80).map (fun i => (i.zero, i.size, i.bytes)) = some (some (.agg #[(.int .u8 0), (.int .u8 0)]), (encCell).size, 2)) rfl (by decide) rfl rfl rfl rfl rfl rfl rl29 rl39 e29 (fun ao27 cap27 rl40 => ?_)
         refine ⟨fun w' s => (s.sl [1, 8, 10]), ?_⟩
         refine TQ' 12 rfl (ov_indexAddr_bsl (j := 4) underlying76 sizeOf78 rfl rfl rfl (eq_of_beq hc12) rfl) ?_
         refine AL.any (rs := [13]) (by kernel_rfl) (by decide) ?_
         refine ALs.cons0 (i := 13) rfl (Runs.free rfl) rfl ?_ ?_
         ·
          refine os_store (i := 9) (vs := [(.slice ao27 (l18 ++ ([x15] : List Cell)).length cap27)]) (cs' := [(.slice ao17 l14.length cap17), (.slice ao18 l15.length cap18), (.slice ao19 l16.length cap19), (.slice ao20 l17.length cap20), (.slice ao27 (l18 ++ ([x15] : List Cell)).length cap27), (.slice ao22 l19.length cap22)]) sizeOf78 rfl rfl rfl rfl rfl rfl rfl rfl rfl ?_
          refine ⟨fun w' s => (s.sl [1, 8, 10]), ?_⟩
          refine AL.done (by kernel_rfl) ?_
          refine bn (tn (WP.region (V rfl (ov_add rfl rfl rfl) (Vm rfl (WL.nil (tn ?_))))))
          exact ⟨(IntKind.wrap .i64 (i4 + 1)), l14, ao17, cap17, xs16, l15, ao18, cap18, xs17, l16, ao19, cap19, xs18, l17, ao20, cap20, xs19, (l18 ++ ([x15] : List Cell)), ao27, cap27, (xs20 ++ [(.int .u8 x15.first), (.int .u8 x15.second)]), l19, ao22, cap22, xs21, rl25, rl26, rl27, rl28, rl40, rl30, (Sub.all rfl), fun w' s => (s.sl [1, 2, 3, 4, 5, 6, 7, 8, 9, 10]), hm⟩
         exact ALs.nil
        exact ALs.nil
       exact ALs.nil
      exact ALs.nil
     replace hm := ite_f hc12 hm
     rcases Bool.eq_false_or_eq_true (i4 == 5) with hc13 | hc13
     ·
      replace hm := ite_t hc13 hm
      refine TQ' 4 rfl (ov_indexAddr_bsl (j := 5) underlying76 sizeOf78 rfl rfl rfl (eq_of_beq hc13) rfl) (TQ' 6 rfl (ov_move rfl rfl) (TQ' 7 rfl (ov_move rfl rfl) ?_))
      obtain ⟨x16, e30, hm⟩ := bind_some hm
      obtain ⟨h94, h95, h96, cs19, h97, h98⟩ := RL.get rl24 e30
      obtain rfl : cs19 = [(.int .u8 x16.first), (.int .u8 x16.second)] := h97
      refine TQ' 8 rfl (ov_indexAddr_own (i := 0) underlying78 sizeOf80 rfl rfl rfl rfl h94 h95) (TQ' 9 rfl (ov_load_owns (i := 0) (vs := [(.int .u8 x16.first), (.int .u8 x16.second)]) isAgg80 sizeOf80 rfl rfl rfl (own_pos h94 h95) rfl (fun j u hu => elem_cell h98 hu)) ?_)
      refine AL.any (rs := [5, 10]) (by kernel_rfl) (by decide) ?_
      refine ALs.cons (i := 5) rfl (Runs.free rfl) rfl rfl ?_ ?_
      ·
       refine OQ.step (OV.quiet (ov_load_box (i := 8) isAgg78 rfl rfl rfl rfl)) ?_
       refine ⟨fun w' s => (s.sl [0, 7, 9]), ?_⟩
       refine AL.any (rs := [10]) (by kernel_rfl) (by decide) ?_
       refine ALs.cons (i := 10) rfl (Runs.free rfl) rfl rfl ?_ ?_
       ·
        have rl41 : RL H encCell ([x16] : List Cell) [(.int .u8 x16.first), (.int .u8 x16.second)] := RL.cons (cs := [(.int .u8 x16.first), (.int .u8 x16.second)]) (xs := []) rfl (RL.nil _ _)
        refine os_buildSlice (cs := [(.int .u8 x16.first), (.int .u8 x16.second)]) (E := 80) (sz := 2) rfl rfl (fun _ => by kernel_rfl) rfl (by decide) (fun b12 => ?_)
        refine ⟨fun w' s => (s.sl [1, 8, 10]), ?_⟩
        refine AL.any (rs := [11]) (by kernel_rfl) (by decide) ?_
        refine ALs.cons (i := 11) rfl (Runs.free rfl) rfl rfl ?_ ?_
        ·
         obtain ⟨l25, e31, hm⟩ := bind_some hm
         refine os_app (i := 2) (j := 0) (En := encCell) (xs := xs21) (ys := [(.int .u8 x16.first), (.int .u8 x16.second)]) underlying78 (by kernel_rfl : (prog.info? 80).map (fun i => (i.zero, i.size, i.bytes)) = some (some (.agg #[(.int .u8 0), (.int .u8 0)]), (encCell).size, 2)) rfl (by decide) rfl rfl rfl rfl rfl rfl rl30 rl41 e31 (fun ao28 cap28 rl42 => ?_)
         refine ⟨fun w' s => (s.sl [1, 8, 10]), ?_⟩
         refine TQ' 12 rfl (ov_indexAddr_bsl (j := 5) underlying76 sizeOf78 rfl rfl rfl (eq_of_beq hc13) rfl) ?_
         refine AL.any (rs := [13]) (by kernel_rfl) (by decide) ?_
         refine ALs.cons0 (i := 13) rfl (Runs.free rfl) rfl ?_ ?_
         ·
          refine os_store (i := 9) (vs := [(.slice ao28 (l19 ++ ([x16] : List Cell)).length cap28)]) (cs' := [(.slice ao17 l14.length cap17), (.slice ao18 l15.length cap18), (.slice ao19 l16.length cap19), (.slice ao20 l17.length cap20), (.slice ao21 l18.length cap21), (.slice ao28 (l19 ++ ([x16] : List Cell)).length cap28)]) sizeOf78 rfl rfl rfl rfl rfl rfl rfl rfl rfl ?_
          refine ⟨fun w' s => (s.sl [1, 8, 10]), ?_⟩
          refine AL.done (by kernel_rfl) ?_
          refine bn (tn (WP.region (V rfl (ov_add rfl rfl rfl) (Vm rfl (WL.nil (tn ?_))))))
          exact ⟨(IntKind.wrap .i64 (i4 + 1)), l14, ao17, cap17, xs16, l15, ao18, cap18, xs17, l16, ao19, cap19, xs18, l17, ao20, cap20, xs19, l18, ao21, cap21, xs20, (l19 ++ ([x16] : List Cell)), ao28, cap28, (xs21 ++ [(.int .u8 x16.first), (.int .u8 x16.second)]), rl25, rl26, rl27, rl28, rl29, rl42, (Sub.all rfl), fun w' s => (s.sl [1, 2, 3, 4, 5, 6, 7, 8, 9, 10]), hm⟩
         exact ALs.nil
        exact ALs.nil
       exact ALs.nil
      refine ALs.cons (i := 10) rfl (Runs.free rfl) rfl rfl ?_ ?_
      ·
       have rl41 : RL H encCell ([x16] : List Cell) [(.int .u8 x16.first), (.int .u8 x16.second)] := RL.cons (cs := [(.int .u8 x16.first), (.int .u8 x16.second)]) (xs := []) rfl (RL.nil _ _)
       refine os_buildSlice (cs := [(.int .u8 x16.first), (.int .u8 x16.second)]) (E := 80) (sz := 2) rfl rfl (fun _ => by kernel_rfl) rfl (by decide) (fun b12 => ?_)
       refine ⟨fun w' s => (s.sl [1, 8, 10]), ?_⟩
       refine AL.any (rs := [5]) (by kernel_rfl) (by decide) ?_
       refine ALs.cons (i := 5) rfl (Runs.free rfl) rfl rfl ?_ ?_
       ·
        refine OQ.step (OV.quiet (ov_load_box (i := 9) isAgg78 rfl rfl rfl rfl)) ?_
        refine ⟨fun w' s => (s.sl [1, 8, 10]), ?_⟩
        refine AL.any (rs := [11]) (by kernel_rfl) (by decide) ?_
        refine ALs.cons (i := 11) rfl (Runs.free rfl) rfl rfl ?_ ?_
        ·
         obtain ⟨l25, e31, hm⟩ := bind_some hm
         refine os_app (i := 2) (j := 0) (En := encCell) (xs := xs21) (ys := [(.int .u8 x16.first), (.int .u8 x16.second)]) underlying78 (by kernel_rfl : (prog.info? 80).map (fun i => (i.zero, i.size, i.bytes)) = some (some (.agg #[(.int .u8 0), (.int .u8 0)]), (encCell).size, 2)) rfl (by decide) rfl rfl rfl rfl rfl rfl rl30 rl41 e31 (fun ao28 cap28 rl42 => ?_)
         refine ⟨fun w' s => (s.sl [1, 8, 10]), ?_⟩
         refine TQ' 12 rfl (ov_indexAddr_bsl (j := 5) underlying76 sizeOf78 rfl rfl rfl (eq_of_beq hc13) rfl) ?_
         refine AL.any (rs := [13]) (by kernel_rfl) (by decide) ?_
         refine ALs.cons0 (i := 13) rfl (Runs.free rfl) rfl ?_ ?_
         ·
          refine os_store (i := 9) (vs := [(.slice ao28 (l19 ++ ([x16] : List Cell)).length cap28)]) (cs' := [(.slice ao17 l14.length cap17), (.slice ao18 l15.length cap18), (.slice ao19 l16.length cap19), (.slice ao20 l17.length cap20), (.slice ao21 l18.length cap21), (.slice ao28 (l19 ++ ([x16] : List Cell)).length cap28)]) sizeOf78 rfl rfl rfl rfl rfl rfl rfl rfl rfl ?_
          refine ⟨fun w' s => (s.sl [1, 8, 10]), ?_⟩
          refine AL.done (by kernel_rfl) ?_
          refine bn (tn (WP.region (V rfl (ov_add rfl rfl rfl) (Vm rfl (WL.nil (tn ?_))))))
          exact ⟨(IntKind.wrap .i64 (i4 + 1)), l14, ao17, cap17, xs16, l15, ao18, cap18, xs17, l16, ao19, cap19, xs18, l17, ao20, cap20, xs19, l18, ao21, cap21, xs20, (l19 ++ ([x16] : List Cell)), ao28, cap28, (xs21 ++ [(.int .u8 x16.first), (.int .u8 x16.second)]), rl25, rl26, rl27, rl28, rl29, rl42, (Sub.all rfl), fun w' s => (s.sl [1, 2, 3, 4, 5, 6, 7, 8, 9, 10]), hm⟩
         exact ALs.nil
        exact ALs.nil
       exact ALs.nil
      exact ALs.nil
     replace hm := ite_f hc13 hm
     exact (none_some hm).elim
    replace hm := ite_f hc7 hm
    refine WP.exit (then_exit (then_exit (block_here (bn (tn ?_)))))
    exact ⟨l12, ao15, cap15, xs14, l14, ao17, cap17, xs16, l15, ao18, cap18, xs17, l16, ao19, cap19, xs18, l17, ao20, cap20, xs19, l18, ao21, cap21, xs20, l19, ao22, cap22, xs21, rl23, rl25, rl26, rl27, rl28, rl29, rl30, (Sub.all rfl), fun w' s => (s.sl [1, 2, 3, 4, 5, 6, 7, 8, 9]), hm⟩
   rintro g' S' ⟨l26, ao29, cap29, xs22, l27, ao30, cap30, xs23, l28, ao31, cap31, xs24, l29, ao32, cap32, xs25, l30, ao33, cap33, xs26, l31, ao34, cap34, xs27, l32, ao35, cap35, xs28, rl43, rl44, rl45, rl46, rl47, rl48, rl49, hsub7, hS7, hm⟩
   refine WP.sub hsub7 (WP.weaken hS7 ?_)
   replace hm := (congrFun (congrFun (congrFun (congrFun (congrFun (congrFun (congrFun hk2 l26) l27) l28) l29) l30) l31) l32).symm.trans hm
   refine WP.region (V rfl (ov_add rfl rfl rfl) (Vm rfl (WL.nil (tn ?_))))
   exact ⟨(IntKind.wrap .i64 (i1 + 1)), l26, ao29, cap29, xs22, l27, ao30, cap30, xs23, l28, ao31, cap31, xs24, l29, ao32, cap32, xs25, l30, ao33, cap33, xs26, l31, ao34, cap34, xs27, l32, ao35, cap35, xs28, rl43, rl44, rl45, rl46, rl47, rl48, rl49, (Sub.all rfl), fun w' s => s, hm⟩
  replace hm := ite_f hc3 hm
  refine WP.exit (then_exit (then_exit (block_here (tn ?_))))
  exact ⟨l2, ao4, cap4, xs3, l3, ao5, cap5, xs4, l4, ao6, cap6, xs5, l5, ao7, cap7, xs6, l6, ao8, cap8, xs7, l7, ao9, cap9, xs8, rl9, rl10, rl11, rl12, rl13, rl14, (Sub.all rfl), fun w' s => (s.sl [0, 1, 2, 3, 4, 5, 7]), hm⟩
 rintro g' S' ⟨l33, ao36, cap36, xs29, l34, ao37, cap37, xs30, l35, ao38, cap38, xs31, l36, ao39, cap39, xs32, l37, ao40, cap40, xs33, l38, ao41, cap41, xs34, rl50, rl51, rl52, rl53, rl54, rl55, hsub8, hS8, hm⟩
 refine WP.sub hsub8 (WP.weaken hS8 ?_)
 replace hm := (congrFun (congrFun (congrFun (congrFun (congrFun (congrFun hk1 l33) l34) l35) l36) l37) l38).symm.trans hm
 refine WP.seq (WP.region (Vm rfl ?_))
 refine WL.weaken (fun _ s => s.sl [5, 0, 1, 2, 3, 4, 6]) ?_
 refine WL.held rl50 (fun H1 hc14 hle1 h99 => ?_)
 replace rl55 := rl55.mono hle1
 replace rl54 := rl54.mono hle1
 replace rl53 := rl53.mono hle1
 replace rl52 := rl52.mono hle1
 replace rl51 := rl51.mono hle1
 refine WL.weaken (fun _ s => s.sl [4, 0, 1, 2, 3, 5]) ?_
 refine WL.held rl51 (fun H2 hc15 hle2 h100 => ?_)
 replace rl55 := rl55.mono hle2
 replace rl54 := rl54.mono hle2
 replace rl53 := rl53.mono hle2
 replace rl52 := rl52.mono hle2
 replace h99 := h99.mono hle2
 refine WL.weaken (fun _ s => s.sl [3, 0, 1, 2, 4]) ?_
 refine WL.held rl52 (fun H3 hc16 hle3 h101 => ?_)
 replace rl55 := rl55.mono hle3
 replace rl54 := rl54.mono hle3
 replace rl53 := rl53.mono hle3
 replace h99 := h99.mono hle3
 replace h100 := h100.mono hle3
 refine WL.weaken (fun _ s => s.sl [2, 0, 1, 3]) ?_
 refine WL.held rl53 (fun H4 hc17 hle4 h102 => ?_)
 replace rl55 := rl55.mono hle4
 replace rl54 := rl54.mono hle4
 replace h99 := h99.mono hle4
 replace h100 := h100.mono hle4
 replace h101 := h101.mono hle4
 refine WL.weaken (fun _ s => s.sl [1, 0, 2]) ?_
 refine WL.held rl54 (fun H5 hc18 hle5 h103 => ?_)
 replace rl55 := rl55.mono hle5
 replace h99 := h99.mono hle5
 replace h100 := h100.mono hle5
 replace h101 := h101.mono hle5
 replace h102 := h102.mono hle5
 refine WL.held rl55 (fun H6 hc19 hle6 h104 => ?_)
 replace h99 := h99.mono hle6
 replace h100 := h100.mono hle6
 replace h101 := h101.mono hle6
 replace h102 := h102.mono hle6
 replace h103 := h103.mono hle6
 have rl56 : RL H6 (encSl encCell) ([l33, l34, l35, l36, l37, l38] : List (List Cell)) [(.slice ao36 l33.length cap36), (.slice ao37 l34.length cap37), (.slice ao38 l35.length cap38), (.slice ao39 l36.length cap39), (.slice ao40 l37.length cap40), (.slice ao41 l38.length cap41)] := RL.cons (cs := [(.slice ao36 l33.length cap36)]) (xs := [(.slice ao37 l34.length cap37), (.slice ao38 l35.length cap38), (.slice ao39 l36.length cap39), (.slice ao40 l37.length cap40), (.slice ao41 l38.length cap41)]) ⟨ao36, cap36, rfl, h99, hc14⟩ (RL.cons (cs := [(.slice ao37 l34.length cap37)]) (xs := [(.slice ao38 l35.length cap38), (.slice ao39 l36.length cap39), (.slice ao40 l37.length cap40), (.slice ao41 l38.length cap41)]) ⟨ao37, cap37, rfl, h100, hc15⟩ (RL.cons (cs := [(.slice ao38 l35.length cap38)]) (xs := [(.slice ao39 l36.length cap39), (.slice ao40 l37.length cap40), (.slice ao41 l38.length cap41)]) ⟨ao38, cap38, rfl, h101, hc16⟩ (RL.cons (cs := [(.slice ao39 l36.length cap39)]) (xs := [(.slice ao40 l37.length cap40), (.slice ao41 l38.length cap41)]) ⟨ao39, cap39, rfl, h102, hc17⟩ (RL.cons (cs := [(.slice ao40 l37.length cap40)]) (xs := [(.slice ao41 l38.length cap41)]) ⟨ao40, cap40, rfl, h103, hc18⟩ (RL.cons (cs := [(.slice ao41 l38.length cap41)]) (xs := []) ⟨ao41, cap41, rfl, h104, hc19⟩ (RL.nil _ _))))))
 refine WL.weaken (fun _ s => s.blk_rowN (N := 6) (sz := 1) rfl (by decide)) ?_
 refine Va rfl (WL.nil (tn (WP.ret ?_)))
 obtain rfl := Option.some.inj hm
 refine retQ_ret results43 (Res.tmp rfl Res.nil) rfl (fun w' s => ⟨s.below, ?_⟩)
 obtain ⟨h105, hc20⟩ := s.ret_row (i := 0) rfl rl56
 exact ⟨(some ⟨b2, 0, none⟩), 6, rfl, h105, hc20⟩
theorem diagram_cells_con (p_s : Sequence) (ao1 : Option Addr) (cap1 : Nat) (w : World) (H : Heap) (hH : Le H (hp w)) (h1 : SL H encStep ao1 p_s.steps) (hc1 : p_s.steps.length ≤ cap1) (hG : Glob H) (r : (List (List Cell))) (hm : diagram_cells p_s = some r) :
  Con prog 43 [(.agg #[(.int .i64 p_s.actuators), (.slice ao1 p_s.steps.length cap1)])] w H (fun v H' => ∃ (ao2 : Option Addr) (cap2 : Nat), v = (.slice ao2 r.length cap2) ∧ SL H' (encSl encCell) ao2 r ∧ r.length ≤ cap2) := by
 unfold diagram_cells at hm
 rcases Bool.eq_false_or_eq_true (p_s.actuators == 1) with hc | hc
 ·
  replace hm := ite_t hc hm
  exact diagram_cells1_con p_s ao1 cap1 w H hH h1 hc1 hG hc r hm
 replace hm := ite_f hc hm
 rcases Bool.eq_false_or_eq_true (p_s.actuators == 2) with hc | hc
 ·
  replace hm := ite_t hc hm
  exact diagram_cells2_con p_s ao1 cap1 w H hH h1 hc1 hG hc r hm
 replace hm := ite_f hc hm
 rcases Bool.eq_false_or_eq_true (p_s.actuators == 3) with hc | hc
 ·
  replace hm := ite_t hc hm
  exact diagram_cells3_con p_s ao1 cap1 w H hH h1 hc1 hG hc r hm
 replace hm := ite_f hc hm
 rcases Bool.eq_false_or_eq_true (p_s.actuators == 4) with hc | hc
 ·
  replace hm := ite_t hc hm
  exact diagram_cells4_con p_s ao1 cap1 w H hH h1 hc1 hG hc r hm
 replace hm := ite_f hc hm
 rcases Bool.eq_false_or_eq_true (p_s.actuators == 5) with hc | hc
 ·
  replace hm := ite_t hc hm
  exact diagram_cells5_con p_s ao1 cap1 w H hH h1 hc1 hG hc r hm
 replace hm := ite_f hc hm
 rcases Bool.eq_false_or_eq_true (p_s.actuators == 6) with hc | hc
 ·
  replace hm := ite_t hc hm
  exact diagram_cells6_con p_s ao1 cap1 w H hH h1 hc1 hG hc r hm
 replace hm := ite_f hc hm
 exact (none_some hm).elim
theorem diagram_letter_con (p_a : Int) (w : World) (H : Heap) (hH : Le H (hp w)) (hG : Glob H) (r : (List UInt8)) (hm : diagram_letter p_a = some r) :
  Con prog 45 [(.int .i64 p_a)] w H (fun v _ => v = (mkS r)) := by
 unfold diagram_letter at hm
 refine con_of hH func45 rfl 7 ntmps45 rfl ?_
 refine WP.seq (WP.region (Va rfl (WL.nil (tn (WP.seq (WP.region (Vm rfl (V rfl (ov_add rfl rfl rfl) (V rfl (ov_convert_int underlying3 underlying21 rfl rfl) (V rfl (ov_convert_rune' underlying21 underlying9 rfl rfl) (Va rfl (WL.nil (tn ?_)))))))))))))
 refine WP.ret ?_
 obtain rfl := Option.some.inj hm
 refine retQ_ret results45 (Res.tmp rfl Res.nil) rfl (fun w' s => ⟨s.below, ?_⟩)
 exact rfl
theorem diagram_draw_con (p_s : Sequence) (ao1 : Option Addr) (cap1 : Nat) (w : World) (H : Heap) (hH : Le H (hp w)) (h1 : SL H encStep ao1 p_s.steps) (hc1 : p_s.steps.length ≤ cap1) (hG : Glob H) (r : (List (List UInt8))) (hm : diagram_draw p_s = some r) :
  Con prog 41 [(.agg #[(.int .i64 p_s.actuators), (.slice ao1 p_s.steps.length cap1)])] w H (fun v H' => ∃ (ao2 : Option Addr) (cap2 : Nat), v = (.slice ao2 r.length cap2) ∧ SL H' encStr ao2 r ∧ r.length ≤ cap2) := by
 unfold diagram_draw at hm
 refine con_of hH func41 rfl 36 ntmps41 rfl ?_
 refine WP.seq (WP.region ?_)
 refine ws rfl (os_box (cs := [(.int .i64 p_s.actuators), (.slice ao1 p_s.steps.length cap1)]) rfl rfl rfl (fun b1 => ?_))
 refine Va rfl (WL.nil (tn (WP.seq (WP.region (V rfl (ov_load_whole (i := 0) isAgg24 sizeOf24 rfl rfl rfl rfl) ?_)))))
 refine ws rfl (os_inline (cap := []) (vs := [(.agg #[(.int .i64 p_s.actuators), (.slice ao1 p_s.steps.length cap1)]), (.func (.func 53) #[] #[])]) call49 rfl rfl rfl func49 rfl 46 ntmps49 rfl (fun w' s => ?_))
 refine WP.seq (WP.region ?_)
 refine ws rfl (os_box (cs := [(.int .i64 p_s.actuators), (.slice ao1 p_s.steps.length cap1)]) rfl rfl rfl (fun b2 => ?_))
 refine Va rfl (WL.nil (tn (WP.seq (WP.region (Va rfl (WL.nil (tn ?_)))))))
 obtain ⟨k1, hk1, hm⟩ := joinK_some hm
 refine WP.seq_join (fun g' S' => ∃ (H2 : Heap) (l9 : (List (List UInt8))) (ao13 : _) (cap13 : _) (xs5 : _), Le H H2 ∧ RL H2 encStr l9 xs5 ∧ Sub [(5, (.slice ao13 l9.length cap13)), (1000000007, (.bool false))] g' ∧ (∀ w', S' w' → St w H [rowE 9 encStr l9 ao13 cap13 xs5, .blk b1 24 [(.int .i64 p_s.actuators), (.slice ao1 p_s.steps.length cap1)]] H2 w') ∧ k1 l9 = some r) ?_ ?_
 ·
  refine WP.seq (WP.region (V rfl (ov_load_whole (i := 0) isAgg24 sizeOf24 rfl rfl rfl rfl) ?_))
  obtain ⟨r1, e1, hm⟩ := bind_some hm
  refine ws rfl (os_con call43 rfl rfl (fun w' s => (diagram_cells_con p_s ao1 cap1  w' H s.hold h1 hc1 hG r1 e1)) (fun rr1 H1 hle1 hR1 => ?_))
  replace h1 := h1.mono hle1
  replace hG := hG.mono hle1
  obtain ⟨ao3, cap3, rfl, h3, hc3⟩ := hR1
  refine V rfl (ov_len_slice underlying76 rfl rfl) (Vm rfl (WL.nil (tn (WP.block ?_))))
  have rl1 := RL.nil (α := (List UInt8)) H1 encStr
  refine WP.weaken (fun _ s => s.nilrow 9 (encStr).size) ?_
  refine WP.loop (fun m1 g' S' => ∃ (i1 : Int) (l1 : (List (List UInt8))) (ao4 : _) (cap4 : _) (xs1 : _), RL H1 encStr l1 xs1 ∧ Sub [(1, (.func (.func 53) #[] #[])), (5, (.slice ao4 l1.length cap4)), (12, (.slice ao3 r1.length cap3)), (13, (.int .i64 (r1.length : Int))), (14, (.int .i64 i1)), (1000000007, (.bool false))] g' ∧ (∀ w', S' w' → St w H [rowE 9 encStr l1 ao4 cap4 xs1, .blk b1 24 [(.int .i64 p_s.actuators), (.slice ao1 p_s.steps.length cap1)]] H1 w') ∧ diagram_draw_loop1 k1 r1 m1 i1 l1 = some r) ((Int.toNat ((r1.length : Int) - 0) + 1)) ⟨0, ([] : List (List UInt8)), none, 0, [], rl1, (Sub.all rfl), fun w' s => (s.sl [0, 2]), hm⟩ ?_ ?_
  ·
   rintro g' S' ⟨_, _, _, _, _, _, _, _, hm⟩
   exact none_some hm
  rintro m1 g' S' ⟨i1, l1, ao4, cap4, xs1, rl2, hsub1, hS1, hm⟩
  refine WP.sub hsub1 (WP.weaken hS1 ?_)
  rw [diagram_draw_loop1] at hm
  refine WP.seq (WP.region (V rfl (ov_lss rfl rfl rfl) (WL.nil (tn (WP.seq ?_)))))
  refine WP.cond rfl (fun hc4 => ?_) (fun hc4 => ?_)
  ·
   replace hm := ite_t hc4 hm
   refine WP.skip (tn ?_)
   obtain ⟨k2, hk2, hm⟩ := joinK_some hm
   refine WP.seq_join (fun g' S' => ∃ (l8 : (List (List UInt8))) (ao12 : _) (cap12 : _) (xs4 : _), RL H1 encStr l8 xs4 ∧ Sub [(1, (.func (.func 53) #[] #[])), (5, (.slice ao12 l8.length cap12)), (12, (.slice ao3 r1.length cap3)), (13, (.int .i64 (r1.length : Int))), (14, (.int .i64 i1)), (1000000007, (.bool false))] g' ∧ (∀ w', S' w' → St w H [rowE 9 encStr l8 ao12 cap12 xs4, .blk b1 24 [(.int .i64 p_s.actuators), (.slice ao1 p_s.steps.length cap1)]] H1 w') ∧ k2 l8 = some r) ?_ ?_
   ·
    refine WP.block (WP.seq (WP.region (Vm rfl ?_)))
    obtain ⟨x1, e2, hm⟩ := bind_some hm
    obtain ⟨h5, h6, h7, cs1, h8, h9⟩ := h3.get e2 (by decide)
    obtain ⟨ao5, cap5, rfl, h4, hc5⟩ := h8
    refine V rfl (ov_indexAddr underlying76 sizeOf78 rfl rfl rfl h5 h6 h7) (V rfl (ov_load_elem (v := (.slice ao5 x1.length cap5)) isAgg78 rfl rfl h9) (Va rfl (Va rfl (WL.nil (tn (WP.seq (WP.region (V rfl (ov_build (r := (.agg #[(.pointer none), (.slice none 0 0)])) rfl rfl (fun _ => by kernel_rfl)) ?_))))))))
    refine WL.within (fun w1 s1 => ?_)
    have sv1 := h3
    replace h3 := h3.mono s1.hold
    have sv2 := h9
    replace h9 := h9.mono s1.hold
    have sv3 := h4
    replace h4 := h4.mono s1.hold
    have sv4 := h1
    replace h1 := h1.mono s1.hold
    have sv5 := rl2
    replace rl2 := rl2.mono s1.hold
    have sv6 := hG
    replace hG := hG.mono s1.hold
    have h10 : RowAt (hp w1) (some ⟨b1, 0, none⟩) 0 [(.int .i64 p_s.actuators), (.slice ao1 p_s.steps.length cap1)] := s1.box_row (i := 1) rfl
    refine ws rfl (os_box (cs := [(.pointer none), (.slice none 0 0)]) rfl rfl rfl (fun b3 => ?_))
    refine Va rfl (WL.nil (tn (WP.seq (WP.region (Vm rfl (Vm rfl ?_))))))
    obtain ⟨r2, e3, hm⟩ := bind_some hm
    refine wo rfl (oq_con (r := (mkS r2)) call45 rfl rfl (fun w' s => ⟨_, (diagram_letter_con i1  w' (hp w1) s.hold hG r2 e3)⟩)) ?_
    obtain ⟨s2, e4, hm⟩ := bind_some hm
    refine V rfl (ov_sadd' e4 rfl rfl rfl) ?_
    refine ws rfl (os_inline (cap := []) (vs := [(pB b3 0), (mkS s2)]) call82 rfl rfl rfl func82 rfl 19 ntmps82 rfl (fun w' s => ?_))
    refine WP.seq (WP.region (Va rfl (Va rfl (WL.nil (tn (WP.seq (WP.region (Vm rfl ?_))))))))
    refine ws rfl (os_copyCheck (i := 0) rfl rfl rfl (.inl rfl) ?_)
    refine WL.nil (tn (WP.seq (WP.region (Vm rfl (Vm rfl (V rfl (ov_nilCheckB rfl rfl) (V rfl (ov_fieldAddr underlying123 rfl rfl rfl sizeOf75 rfl rfl) (Vl 0 isAgg75 rfl (Vm rfl ?_)))))))))
    have rl3 := RL.nil (α := UInt8) (hp w1) encByte
    refine WL.weaken (fun _ s => s.nilrow 5 (encByte).size) ?_
    obtain ⟨l2, e5, hm⟩ := bind_some hm
    refine ws rfl (os_app_str (i := 0) (xs := []) underlying75 underlying9 (by kernel_rfl : (prog.info? 5).map (fun i => (i.zero, i.size, i.bytes)) = some (some (.int .u8 0), 1, 1)) rfl rfl rfl rfl rl3 e5 (fun ao6 cap6 ys1 rl4 => ?_))
    refine V rfl (ov_nilCheckB rfl rfl) (V rfl (ov_fieldAddr underlying123 rfl rfl rfl sizeOf75 rfl rfl) ?_)
    refine ws0 rfl (os_store (i := 1) (vs := [(.slice ao6 (([] : List UInt8) ++ s2).length cap6)]) (cs' := [(pB b3 0), (.slice ao6 (([] : List UInt8) ++ s2).length cap6)]) sizeOf75 rfl rfl rfl rfl rfl rfl rfl rfl rfl ?_)
    refine WL.nil (tn (WP.seq (WP.region (Vm rfl (V rfl (ov_len_string underlying9 rfl rfl) (Va rfl (Va rfl (WL.nil (tn (WP.ret ?_))))))))))
    refine retQ_ret (v := (.tuple #[(.int .i64 (s2.length : Int)), .nilIface])) results82 (Res.tmp rfl (Res.tmp rfl Res.nil)) rfl (fun w' s => ⟨_, ?_, s⟩)
    refine WL.nil (tn ?_)
    obtain ⟨k3, hk3, hm⟩ := joinK_some hm
    refine WP.seq_join (fun g' S' => ∃ (l6 : (List UInt8)) (ao10 : _) (cap10 : _) (xs3 : _), RL (hp w1) encByte l6 xs3 ∧ Sub [(1, (.func (.func 53) #[] #[])), (5, (.slice ao4 l1.length cap4)), (8, (pB b3 0)), (12, (.slice ao3 r1.length cap3)), (13, (.int .i64 (r1.length : Int))), (14, (.int .i64 i1)), (1000000007, (.bool false))] g' ∧ (∀ w', S' w' → St w1 (hp w1) [rowE 5 encByte l6 ao10 cap10 xs3, .blk b3 123 [(pB b3 0), (.slice ao10 l6.length cap10)]] (hp w1) w') ∧ k3 l6 = some r) ?_ ?_
    ·
     refine WP.seq (WP.region (Vm rfl (V rfl (ov_len_slice underlying78 rfl rfl) (Vm rfl (WL.nil (tn (WP.block ?_)))))))
     refine WP.loop (fun m2 g' S' => ∃ (i2 : Int) (l3 : (List UInt8)) (ao7 : _) (cap7 : _) (xs2 : _), RL (hp w1) encByte l3 xs2 ∧ Sub [(1, (.func (.func 53) #[] #[])), (5, (.slice ao4 l1.length cap4)), (8, (pB b3 0)), (12, (.slice ao3 r1.length cap3)), (13, (.int .i64 (r1.length : Int))), (14, (.int .i64 i1)), (26, (.slice ao5 x1.length cap5)), (27, (.int .i64 (x1.length : Int))), (28, (.int .i64 i2)), (1000000007, (.bool false))] g' ∧ (∀ w', S' w' → St w1 (hp w1) [rowE 5 encByte l3 ao7 cap7 xs2, .blk b3 123 [(pB b3 0), (.slice ao7 l3.length cap7)]] (hp w1) w') ∧ diagram_draw_loop2 x1 k3 m2 i2 l3 = some r) ((Int.toNat ((x1.length : Int) - 0) + 1)) ⟨0, (([] : List UInt8) ++ s2), ao6, cap6, ([] ++ ys1), rl4, (Sub.all rfl), fun w' s => s, hm⟩ ?_ ?_
     ·
      rintro g' S' ⟨_, _, _, _, _, _, _, _, hm⟩
      exact none_some hm
     rintro m2 g' S' ⟨i2, l3, ao7, cap7, xs2, rl5, hsub2, hS2, hm⟩
     refine WP.sub hsub2 (WP.weaken hS2 ?_)
     rw [diagram_draw_loop2] at hm
     refine WP.seq (WP.region (V rfl (ov_lss rfl rfl rfl) (WL.nil (tn (WP.seq ?_)))))
     refine WP.cond rfl (fun hc6 => ?_) (fun hc6 => ?_)
     ·
      replace hm := ite_t hc6 hm
      refine WP.skip (tn (WP.seq (WP.block (WP.seq (WP.region (Vm rfl ?_))))))
      obtain ⟨x2, e6, hm⟩ := bind_some hm
      obtain ⟨h11, h12, h13, cs2, h14, h15⟩ := h4.get e6 (by decide)
      obtain rfl : cs2 = [(.int .u8 x2.first), (.int .u8 x2.second)] := h14
      refine V rfl (ov_indexAddr underlying78 sizeOf80 rfl rfl rfl h11 h12 h13) (V rfl (ov_load_elems (vs := [(.int .u8 x2.first), (.int .u8 x2.second)]) isAgg80 sizeOf80 rfl rfl rfl h15 h13) ?_)
      refine ws rfl (os_alloc (cs := [(.int .u8 0), (.int .u8 0)]) zeroValue80 rfl rfl (fun b4 => ?_))
      refine Va rfl ?_
      refine ws0 rfl (os_store (i := 0) (vs := [(.int .u8 x2.first), (.int .u8 x2.second)]) (cs' := [(.int .u8 x2.first), (.int .u8 x2.second)]) sizeOf80 rfl rfl rfl rfl rfl rfl rfl rfl rfl ?_)
      refine WL.nil (tn (WP.region (Vm rfl (Vm rfl (Vm rfl (V rfl (ov_load_whole (i := 0) isAgg80 sizeOf80 rfl rfl rfl rfl) ?_))))))
      refine ws rfl (os_inline (cap := []) (vs := [(pB b3 0), (.int .i64 i2), (.agg #[(.int .u8 x2.first), (.int .u8 x2.second)])]) call53 rfl rfl rfl func53 rfl 14 ntmps53 rfl (fun w' s => ?_))
      refine WP.seq (WP.region ?_)
      refine ws rfl (os_box (cs := [(.int .u8 x2.first), (.int .u8 x2.second)]) rfl rfl rfl (fun b5 => ?_))
      refine WL.nil (tn (WP.seq (WP.region (Vm rfl (V rfl (ov_fieldAddr underlying80 rfl rfl rfl sizeOf5 rfl rfl) (Vl 0 isAgg5 rfl ?_))))))
      refine ws rfl (os_inline (cap := []) (vs := [(pB b3 0), (.int .u8 x2.first)]) call52 rfl rfl rfl func52 rfl 17 ntmps52 rfl (fun w' s => ?_))
      refine WP.seq (WP.region (Va rfl (WL.nil (tn (WP.seq (WP.region (Vm rfl ?_)))))))
      refine ws rfl (os_copyCheck (i := 3) rfl rfl rfl (.inr rfl) ?_)
      refine WL.nil (tn (WP.seq (WP.region (Vm rfl (Vm rfl (V rfl (ov_nilCheckB rfl rfl) (V rfl (ov_fieldAddr underlying123 rfl rfl rfl sizeOf75 rfl rfl) (Vl 3 isAgg75 rfl (Vm rfl ?_)))))))))
      obtain ⟨u1, e7, hm⟩ := bind_some hm
      replace e7 := guardO_some e7
      have rl6 : RL (hp w1) encByte ([(UInt8.ofNat (Int.toNat x2.first))] : List UInt8) [(.int .u8 x2.first)] := RL.byte1 e7
      refine ws rfl (os_buildSlice (cs := [(.int .u8 x2.first)]) (E := 5) (sz := 1) rfl rfl (fun _ => by kernel_rfl) rfl (by decide) (fun b6 => ?_))
      obtain ⟨l4, e8, hm⟩ := bind_some hm
      refine ws rfl (os_app (i := 3) (j := 0) (En := encByte) (xs := xs2) (ys := [(.int .u8 x2.first)]) underlying75 (by kernel_rfl : (prog.info? 5).map (fun i => (i.zero, i.size, i.bytes)) = some (some (.int .u8 0), (encByte).size, 1)) rfl (by decide) rfl rfl rfl rfl rfl rfl rl5 rl6 e8 (fun ao8 cap8 rl7 => ?_))
      refine V rfl (ov_nilCheckB rfl rfl) (V rfl (ov_fieldAddr underlying123 rfl rfl rfl sizeOf75 rfl rfl) ?_)
      refine ws0 rfl (os_store (i := 4) (vs := [(.slice ao8 (l3 ++ ([(UInt8.ofNat (Int.toNat x2.first))] : List UInt8)).length cap8)]) (cs' := [(pB b3 0), (.slice ao8 (l3 ++ ([(UInt8.ofNat (Int.toNat x2.first))] : List UInt8)).length cap8)]) sizeOf75 rfl rfl rfl rfl rfl rfl rfl rfl rfl ?_)
      refine WL.nil (tn (WP.seq (WP.region (Va rfl (WL.nil (tn (WP.ret ?_)))))))
      refine retQ_ret (v := .nilIface) results52 (Res.tmp rfl Res.nil) rfl (fun w' s => ⟨_, ?_, s⟩)
      refine WL.nil (tn (WP.region (Vm rfl (V rfl (ov_fieldAddr underlying80 rfl rfl rfl sizeOf5 rfl rfl) (Vl 1 isAgg5 rfl ?_)))))
      refine ws rfl (os_inline (cap := []) (vs := [(pB b3 0), (.int .u8 x2.second)]) call52 rfl rfl rfl func52 rfl 17 ntmps52 rfl (fun w' s => ?_))
      refine WP.seq (WP.region (Va rfl (WL.nil (tn (WP.seq (WP.region (Vm rfl ?_)))))))
      refine ws rfl (os_copyCheck (i := 4) rfl rfl rfl (.inr rfl) ?_)
      refine WL.nil (tn (WP.seq (WP.region (Vm rfl (Vm rfl (V rfl (ov_nilCheckB rfl rfl) (V rfl (ov_fieldAddr underlying123 rfl rfl rfl sizeOf75 rfl rfl) (Vl 4 isAgg75 rfl (Vm rfl ?_)))))))))
      obtain ⟨u2, e9, hm⟩ := bind_some hm
      replace e9 := guardO_some e9
      have rl8 : RL (hp w1) encByte ([(UInt8.ofNat (Int.toNat x2.second))] : List UInt8) [(.int .u8 x2.second)] := RL.byte1 e9
      refine ws rfl (os_buildSlice (cs := [(.int .u8 x2.second)]) (E := 5) (sz := 1) rfl rfl (fun _ => by kernel_rfl) rfl (by decide) (fun b7 => ?_))
      obtain ⟨l5, e10, hm⟩ := bind_some hm
      refine ws rfl (os_app (i := 4) (j := 0) (En := encByte) (xs := (xs2 ++ [(.int .u8 x2.first)])) (ys := [(.int .u8 x2.second)]) underlying75 (by kernel_rfl : (prog.info? 5).map (fun i => (i.zero, i.size, i.bytes)) = some (some (.int .u8 0), (encByte).size, 1)) rfl (by decide) rfl rfl rfl rfl rfl rfl rl7 rl8 e10 (fun ao9 cap9 rl9 => ?_))
      refine V rfl (ov_nilCheckB rfl rfl) (V rfl (ov_fieldAddr underlying123 rfl rfl rfl sizeOf75 rfl rfl) ?_)
      refine ws0 rfl (os_store (i := 5) (vs := [(.slice ao9 ((l3 ++ ([(UInt8.ofNat (Int.toNat x2.first))] : List UInt8)) ++ ([(UInt8.ofNat (Int.toNat x2.second))] : List UInt8)).length cap9)]) (cs' := [(pB b3 0), (.slice ao9 ((l3 ++ ([(UInt8.ofNat (Int.toNat x2.first))] : List UInt8)) ++ ([(UInt8.ofNat (Int.toNat x2.second))] : List UInt8)).length cap9)]) sizeOf75 rfl rfl rfl rfl rfl rfl rfl rfl rfl ?_)
      refine WL.nil (tn (WP.seq (WP.region (Va rfl (WL.nil (tn (WP.ret ?_)))))))
      refine retQ_ret (v := .nilIface) results52 (Res.tmp rfl Res.nil) rfl (fun w' s => ⟨_, ?_, s⟩)
      refine WL.nil ?_
      refine retQ_end (v := (.tuple #[])) results53 Res.nil rfl (fun w' s => ⟨_, ?_, s⟩)
      refine WL.nil (bn (tn (WP.region (V rfl (ov_add rfl rfl rfl) (Vm rfl (WL.nil (tn ?_)))))))
      exact ⟨(IntKind.wrap .i64 (i2 + 1)), ((l3 ++ ([(UInt8.ofNat (Int.toNat x2.first))] : List UInt8)) ++ ([(UInt8.ofNat (Int.toNat x2.second))] : List UInt8)), ao9, cap9, ((xs2 ++ [(.int .u8 x2.first)]) ++ [(.int .u8 x2.second)]), rl9, (Sub.all rfl), fun w' s => (s.sl [4, 5]), hm⟩
     replace hm := ite_f hc6 hm
     refine WP.exit (then_exit (then_exit (block_here (tn ?_))))
     exact ⟨l3, ao7, cap7, xs2, rl5, (Sub.all rfl), fun w' s => s, hm⟩
    rintro g' S' ⟨l6, ao10, cap10, xs3, rl10, hsub3, hS3, hm⟩
    refine WP.sub hsub3 (WP.weaken hS3 ?_)
    replace hm := (congrFun hk3 l6).symm.trans hm
    refine WP.region (Vm rfl (Vm rfl ?_))
    have h3 := sv1
    have h9 := sv2
    have h4 := sv3
    have h1 := sv4
    have rl2 := sv5
    have hG := sv6
    refine ws rfl (os_bstring_in s1 (i := 1) (j := 0) rfl rfl rfl rfl (.inr rfl) rl10 ?_)
    have rl11 : RL H1 encStr ([l6] : List (List UInt8)) [(mkS l6)] := RL.cons (cs := [(mkS l6)]) (xs := []) rfl (RL.nil _ _)
    refine ws rfl (os_buildSlice (cs := [(mkS l6)]) (E := 9) (sz := 1) rfl rfl (fun _ => by kernel_rfl) rfl (by decide) (fun b8 => ?_))
    obtain ⟨l7, e11, hm⟩ := bind_some hm
    refine ws rfl (os_app (i := 1) (j := 0) (En := encStr) (xs := xs1) (ys := [(mkS l6)]) underlying27 (by kernel_rfl : (prog.info? 9).map (fun i => (i.zero, i.size, i.bytes)) = some (some (mkS []), (encStr).size, 16)) rfl (by decide) rfl rfl rfl rfl rfl rfl rl2 rl11 e11 (fun ao11 cap11 rl12 => ?_))
    refine Va rfl (WL.nil (bn (tn ?_)))
    exact ⟨(l1 ++ ([l6] : List (List UInt8))), ao11, cap11, (xs1 ++ [(mkS l6)]), rl12, (Sub.all rfl), fun w' s => (s.sl [1, 2]), hm⟩
   rintro g' S' ⟨l8, ao12, cap12, xs4, rl13, hsub4, hS4, hm⟩
   refine WP.sub hsub4 (WP.weaken hS4 ?_)
   replace hm := (congrFun hk2 l8).symm.trans hm
   refine WP.region (V rfl (ov_add rfl rfl rfl) (Vm rfl (WL.nil (tn ?_))))
   exact ⟨(IntKind.wrap .i64 (i1 + 1)), l8, ao12, cap12, xs4, rl13, (Sub.all rfl), fun w' s => s, hm⟩
  replace hm := ite_f hc4 hm
  refine WP.exit (then_exit (then_exit (block_here (tn ?_))))
  exact ⟨H1, l1, ao4, cap4, xs1, hle1, rl2, (Sub.all rfl), fun w' s => s, hm⟩
 rintro g' S' ⟨H2, l9, ao13, cap13, xs5, hle2, rl14, hsub5, hS5, hm⟩
 refine WP.sub hsub5 (WP.weaken hS5 ?_)
 replace hm := (congrFun hk1 l9).symm.trans hm
 replace h1 := h1.mono hle2
 replace hG := hG.mono hle2
 refine WP.seq (WP.region (Vm rfl (Va rfl (WL.nil (tn (WP.ret ?_))))))
 refine retQ_ret (v := (.slice ao13 l9.length cap13)) results49 (Res.tmp rfl Res.nil) rfl (fun w' s => ⟨_, ?_, s⟩)
 refine Va rfl (WL.nil (tn ?_))
 obtain ⟨k4, hk4, hm⟩ := joinK_some hm
 refine WP.seq_join (fun g' S' => ∃ (l15 : (List (List UInt8))) (ao20 : _) (cap20 : _) (xs8 : _), RL H2 encStr l15 xs8 ∧ Sub [(3, (.slice ao20 l15.length cap20)), (1000000007, (.bool false))] g' ∧ (∀ w', S' w' → St w H [rowE 9 encStr l15 ao20 cap20 xs8] H2 w') ∧ k4 l15 = some r) ?_ ?_
 ·
  refine WP.seq (WP.region (V rfl (ov_fieldAddr underlying24 rfl rfl rfl sizeOf22 rfl rfl) (Vl 1 isAgg22 rfl ?_)))
  obtain ⟨r3, e12, hm⟩ := bind_some hm
  refine wo rfl (oq_con (r := (.bool r3)) call80 rfl rfl (fun w' s => ⟨_, (slices_ContainsFunc_api_Stepapi_Step_diagram_draw_1_con p_s.steps ao1 cap1  w' H2 s.hold h1 hc1 hG r3 e12)⟩)) ?_
  refine WL.nil (tn ?_)
  refine WP.cond rfl (fun hc7 => ?_) (fun hc7 => ?_)
  ·
   replace hm := ite_t hc7 hm
   refine WP.seq (WP.region (V rfl (ov_build (r := (.agg #[(.pointer none), (.slice none 0 0)])) rfl rfl (fun _ => by kernel_rfl)) ?_))
   refine WL.within (fun w2 s3 => ?_)
   have sv7 := h1
   replace h1 := h1.mono s3.hold
   have sv8 := rl14
   replace rl14 := rl14.mono s3.hold
   have sv9 := hG
   replace hG := hG.mono s3.hold
   have h16 : RowAt (hp w2) (some ⟨b1, 0, none⟩) 0 [(.int .i64 p_s.actuators), (.slice ao1 p_s.steps.length cap1)] := s3.box_row (i := 1) rfl
   refine ws rfl (os_box (cs := [(.pointer none), (.slice none 0 0)]) rfl rfl rfl (fun b9 => ?_))
   refine Va rfl (WL.nil (tn (WP.seq (WP.region (Vm rfl ?_)))))
   refine ws rfl (os_inline (cap := []) (vs := [(pB b9 0), (mkS [84])]) call82 rfl rfl rfl func82 rfl 19 ntmps82 rfl (fun w' s => ?_))
   refine WP.seq (WP.region (Va rfl (Va rfl (WL.nil (tn (WP.seq (WP.region (Vm rfl ?_))))))))
   refine ws rfl (os_copyCheck (i := 0) rfl rfl rfl (.inl rfl) ?_)
   refine WL.nil (tn (WP.seq (WP.region (Vm rfl (Vm rfl (V rfl (ov_nilCheckB rfl rfl) (V rfl (ov_fieldAddr underlying123 rfl rfl rfl sizeOf75 rfl rfl) (Vl 0 isAgg75 rfl (Vm rfl ?_)))))))))
   have rl15 := RL.nil (α := UInt8) (hp w2) encByte
   refine WL.weaken (fun _ s => s.nilrow 5 (encByte).size) ?_
   obtain ⟨l10, e13, hm⟩ := bind_some hm
   refine ws rfl (os_app_str (i := 0) (xs := []) underlying75 underlying9 (by kernel_rfl : (prog.info? 5).map (fun i => (i.zero, i.size, i.bytes)) = some (some (.int .u8 0), 1, 1)) rfl rfl rfl rfl rl15 e13 (fun ao14 cap14 ys2 rl16 => ?_))
   refine V rfl (ov_nilCheckB rfl rfl) (V rfl (ov_fieldAddr underlying123 rfl rfl rfl sizeOf75 rfl rfl) ?_)
   refine ws0 rfl (os_store (i := 1) (vs := [(.slice ao14 (([] : List UInt8) ++ [84]).length cap14)]) (cs' := [(pB b9 0), (.slice ao14 (([] : List UInt8) ++ [84]).length cap14)]) sizeOf75 rfl rfl rfl rfl rfl rfl rfl rfl rfl ?_)
   refine WL.nil (tn (WP.seq (WP.region (Vm rfl (V rfl (ov_len_string underlying9 rfl rfl) (Va rfl (Va rfl (WL.nil (tn (WP.ret ?_))))))))))
   refine retQ_ret (v := (.tuple #[(.int .i64 (([84] : List UInt8).length : Int)), .nilIface])) results82 (Res.tmp rfl (Res.tmp rfl Res.nil)) rfl (fun w' s => ⟨_, ?_, s⟩)
   refine WL.nil (tn ?_)
   obtain ⟨k5, hk5, hm⟩ := joinK_some hm
   refine WP.seq_join (fun g' S' => ∃ (l13 : (List UInt8)) (ao18 : _) (cap18 : _) (xs7 : _), RL (hp w2) encByte l13 xs7 ∧ Sub [(3, (.slice ao13 l9.length cap13)), (4, (pB b9 0)), (1000000007, (.bool false))] g' ∧ (∀ w', S' w' → St w2 (hp w2) [rowE 5 encByte l13 ao18 cap18 xs7, .blk b9 123 [(pB b9 0), (.slice ao18 l13.length cap18)]] (hp w2) w') ∧ k5 l13 = some r) ?_ ?_
   ·
    refine WP.seq (WP.region (V rfl (ov_fieldAddrE (ao := (some ⟨b1, 0, none⟩)) (k := 0) underlying24 rfl rfl rfl sizeOf22 rfl rfl) ?_))
    refine V rfl (ov_load_elem (v := (.slice ao1 p_s.steps.length cap1)) isAgg22 rfl rfl (h16.one (off := 1) rfl)) (V rfl (ov_len_slice underlying22 rfl rfl) (Vm rfl (WL.nil (tn (WP.block ?_)))))
    refine WP.loop (fun m3 g' S' => ∃ (i3 : Int) (l11 : (List UInt8)) (ao15 : _) (cap15 : _) (xs6 : _), RL (hp w2) encByte l11 xs6 ∧ Sub [(3, (.slice ao13 l9.length cap13)), (4, (pB b9 0)), (17, (.slice ao1 p_s.steps.length cap1)), (18, (.int .i64 (p_s.steps.length : Int))), (19, (.int .i64 i3)), (1000000007, (.bool false))] g' ∧ (∀ w', S' w' → St w2 (hp w2) [rowE 5 encByte l11 ao15 cap15 xs6, .blk b9 123 [(pB b9 0), (.slice ao15 l11.length cap15)]] (hp w2) w') ∧ diagram_draw_loop3 p_s k5 m3 i3 l11 = some r) ((Int.toNat ((p_s.steps.length : Int) - 0) + 1)) ⟨0, (([] : List UInt8) ++ [84]), ao14, cap14, ([] ++ ys2), rl16, (Sub.all rfl), fun w' s => s, hm⟩ ?_ ?_
    ·
     rintro g' S' ⟨_, _, _, _, _, _, _, _, hm⟩
     exact none_some hm
    rintro m3 g' S' ⟨i3, l11, ao15, cap15, xs6, rl17, hsub6, hS6, hm⟩
    refine WP.sub hsub6 (WP.weaken hS6 ?_)
    rw [diagram_draw_loop3] at hm
    refine WP.seq (WP.region (V rfl (ov_lss rfl rfl rfl) (WL.nil (tn (WP.seq ?_)))))
    refine WP.cond rfl (fun hc8 => ?_) (fun hc8 => ?_)
    ·
     replace hm := ite_t hc8 hm
     refine WP.skip (tn (WP.seq (WP.block (WP.seq (WP.region ?_)))))
     obtain ⟨x3, e14, hm⟩ := bind_some hm
     obtain ⟨h18, h19, h20, cs3, h21, h22⟩ := h1.get e14 (by decide)
     obtain ⟨ao16, cap16, rfl, h17, hc9⟩ := h21
     refine V rfl (ov_indexAddr underlying22 sizeOf45 rfl rfl rfl h18 h19 h20) (V rfl (ov_load_elems (vs := [(.slice ao16 x3.strokes.length cap16), (.int .i64 x3.wait)]) isAgg45 sizeOf45 rfl rfl rfl h22 h20) ?_)
     refine ws rfl (os_alloc (cs := [(.slice none 0 0), (.int .i64 0)]) zeroValue45 rfl rfl (fun b10 => ?_))
     refine ws0 rfl (os_store (i := 0) (vs := [(.slice ao16 x3.strokes.length cap16), (.int .i64 x3.wait)]) (cs' := [(.slice ao16 x3.strokes.length cap16), (.int .i64 x3.wait)]) sizeOf45 rfl rfl rfl rfl rfl rfl rfl rfl rfl ?_)
     refine WL.nil (tn (WP.region (Vm rfl (V rfl (ov_fieldAddr underlying45 rfl rfl rfl sizeOf3 rfl rfl) (Vl 0 isAgg3 rfl ?_)))))
     obtain ⟨r4, e15, hm⟩ := bind_some hm
     refine wo rfl (oq_con (r := (mkS r4)) call83 rfl rfl (fun w' s => ⟨_, (itoa_con x3.wait  w' (hp w2) s.hold hG r4 e15)⟩)) ?_
     obtain ⟨s4, e16, hm⟩ := bind_some hm
     refine V rfl (ov_sadd' e16 rfl rfl rfl) ?_
     refine ws rfl (os_inline (cap := []) (vs := [(pB b9 0), (mkS s4)]) call82 rfl rfl rfl func82 rfl 19 ntmps82 rfl (fun w' s => ?_))
     refine WP.seq (WP.region (Va rfl (Va rfl (WL.nil (tn (WP.seq (WP.region (Vm rfl ?_))))))))
     refine ws rfl (os_copyCheck (i := 2) rfl rfl rfl (.inr rfl) ?_)
     refine WL.nil (tn (WP.seq (WP.region (Vm rfl (Vm rfl (V rfl (ov_nilCheckB rfl rfl) (V rfl (ov_fieldAddr underlying123 rfl rfl rfl sizeOf75 rfl rfl) (Vl 2 isAgg75 rfl (Vm rfl ?_)))))))))
     obtain ⟨l12, e17, hm⟩ := bind_some hm
     refine ws rfl (os_app_str (i := 1) (xs := xs6) underlying75 underlying9 (by kernel_rfl : (prog.info? 5).map (fun i => (i.zero, i.size, i.bytes)) = some (some (.int .u8 0), 1, 1)) rfl rfl rfl rfl rl17 e17 (fun ao17 cap17 ys3 rl18 => ?_))
     refine V rfl (ov_nilCheckB rfl rfl) (V rfl (ov_fieldAddr underlying123 rfl rfl rfl sizeOf75 rfl rfl) ?_)
     refine ws0 rfl (os_store (i := 2) (vs := [(.slice ao17 (l11 ++ s4).length cap17)]) (cs' := [(pB b9 0), (.slice ao17 (l11 ++ s4).length cap17)]) sizeOf75 rfl rfl rfl rfl rfl rfl rfl rfl rfl ?_)
     refine WL.nil (tn (WP.seq (WP.region (Vm rfl (V rfl (ov_len_string underlying9 rfl rfl) (Va rfl (Va rfl (WL.nil (tn (WP.ret ?_))))))))))
     refine retQ_ret (v := (.tuple #[(.int .i64 (s4.length : Int)), .nilIface])) results82 (Res.tmp rfl (Res.tmp rfl Res.nil)) rfl (fun w' s => ⟨_, ?_, s⟩)
     refine WL.nil (bn (tn (WP.region (V rfl (ov_add rfl rfl rfl) (Vm rfl (WL.nil (tn ?_)))))))
     exact ⟨(IntKind.wrap .i64 (i3 + 1)), (l11 ++ s4), ao17, cap17, (xs6 ++ ys3), rl18, (Sub.all rfl), fun w' s => (s.sl [1, 2]), hm⟩
    replace hm := ite_f hc8 hm
    refine WP.exit (then_exit (then_exit (block_here (tn ?_))))
    exact ⟨l11, ao15, cap15, xs6, rl17, (Sub.all rfl), fun w' s => s, hm⟩
   rintro g' S' ⟨l13, ao18, cap18, xs7, rl19, hsub7, hS7, hm⟩
   refine WP.sub hsub7 (WP.weaken hS7 ?_)
   replace hm := (congrFun hk5 l13).symm.trans hm
   refine WP.region (Vm rfl (Vm rfl ?_))
   have h1 := sv7
   have rl14 := sv8
   have hG := sv9
   refine ws rfl (os_bstring_in s3 (i := 1) (j := 0) rfl rfl rfl rfl (.inr rfl) rl19 ?_)
   have rl20 : RL H2 encStr ([l13] : List (List UInt8)) [(mkS l13)] := RL.cons (cs := [(mkS l13)]) (xs := []) rfl (RL.nil _ _)
   refine ws rfl (os_buildSlice (cs := [(mkS l13)]) (E := 9) (sz := 1) rfl rfl (fun _ => by kernel_rfl) rfl (by decide) (fun b11 => ?_))
   obtain ⟨l14, e18, hm⟩ := bind_some hm
   refine ws rfl (os_app (i := 1) (j := 0) (En := encStr) (xs := xs5) (ys := [(mkS l13)]) underlying27 (by kernel_rfl : (prog.info? 9).map (fun i => (i.zero, i.size, i.bytes)) = some (some (mkS []), (encStr).size, 16)) rfl (by decide) rfl rfl rfl rfl rfl rfl rl14 rl20 e18 (fun ao19 cap19 rl21 => ?_))
   refine Va rfl (WL.nil (tn ?_))
   exact ⟨(l9 ++ ([l13] : List (List UInt8))), ao19, cap19, (xs5 ++ [(mkS l13)]), rl21, (Sub.all rfl), fun w' s => (s.sl [1]), hm⟩
  replace hm := ite_f hc7 hm
  refine WP.skip (tn ?_)
  exact ⟨l9, ao13, cap13, xs5, rl14, (Sub.all rfl), fun w' s => (s.sl [0]), hm⟩
 rintro g' S' ⟨l15, ao20, cap20, xs8, rl22, hsub8, hS8, hm⟩
 refine WP.sub hsub8 (WP.weaken hS8 ?_)
 replace hm := (congrFun hk4 l15).symm.trans hm
 refine WP.seq (WP.region (Vm rfl (Va rfl (WL.nil (tn (WP.ret ?_))))))
 obtain rfl := Option.some.inj hm
 refine retQ_ret results41 (Res.tmp rfl Res.nil) rfl (fun w' s => ⟨s.below, ?_⟩)
 obtain ⟨h23, hc10⟩ := s.ret_row (i := 0) rfl rl22
 exact ⟨ao20, cap20, rfl, h23, hc10⟩
theorem diagram_Draw_con (p_s : Sequence) (ao1 : Option Addr) (cap1 : Nat) (w : World) (H : Heap) (hH : Le H (hp w)) (h1 : SL H encStep ao1 p_s.steps) (hc1 : p_s.steps.length ≤ cap1) (hG : Glob H) (r : ((List (List UInt8)) × Int)) (hm : diagram_Draw p_s = some r) :
  Con prog 13 [(.agg #[(.int .i64 p_s.actuators), (.slice ao1 p_s.steps.length cap1)])] w H (fun v H' => ∃ (ao2 : Option Addr) (cap2 : Nat), v = (.tuple #[(.slice ao2 r.1.length cap2), (.int .i64 r.2)]) ∧ SL H' encStr ao2 r.1 ∧ r.1.length ≤ cap2) := by
 unfold diagram_Draw at hm
 refine con_of hH func13 rfl 12 ntmps13 rfl ?_
 refine WP.seq (WP.region ?_)
 refine ws rfl (os_box (cs := [(.int .i64 p_s.actuators), (.slice ao1 p_s.steps.length cap1)]) rfl rfl rfl (fun b1 => ?_))
 refine Va rfl (Va rfl (WL.nil (tn (WP.seq (WP.seq (WP.region (V rfl (ov_load_whole (i := 0) isAgg24 sizeOf24 rfl rfl rfl rfl) ?_)))))))
 obtain ⟨r1, e1, hm⟩ := bind_some hm
 refine wo rfl (oq_con (r := (.int .i64 r1)) call40 rfl rfl (fun w' s => ⟨_, (sequence_Check_con p_s ao1 cap1  w' H s.hold h1 hc1 hG r1 e1)⟩)) ?_
 refine Va rfl (WL.nil (tn (WP.seq (WP.region (Vm rfl (V rfl (ov_neq rfl rfl rfl) (WL.nil (tn ?_))))))))
 refine WP.cond rfl (fun hc3 => ?_) (fun hc3 => ?_)
 ·
  replace hm := ite_t hc3 hm
  refine WP.seq (WP.region (Vm rfl (Va rfl (Va rfl (WL.nil (tn (WP.ret (then_ret ?_))))))))
  obtain rfl := Option.some.inj hm
  refine retQ_ret results13 (Res.tmp rfl (Res.tmp rfl Res.nil)) rfl (fun w' s => ⟨s.below, ?_⟩)
  exact ⟨none, 0, rfl, SL.nil _ _ _, Nat.le_refl _⟩
 replace hm := ite_f hc3 hm
 refine WP.skip (tn (WP.seq (WP.region (V rfl (ov_load_whole (i := 0) isAgg24 sizeOf24 rfl rfl rfl rfl) ?_))))
 obtain ⟨r2, e2, hm⟩ := bind_some hm
 refine ws rfl (os_con call41 rfl rfl (fun w' s => (diagram_draw_con p_s ao1 cap1  w' H s.hold h1 hc1 hG r2 e2)) (fun rr1 H1 hle1 hR1 => ?_))
 obtain ⟨ao3, cap3, rfl, h3, hc4⟩ := hR1
 refine Va rfl (Va rfl (WL.nil (tn (WP.ret ?_))))
 obtain rfl := Option.some.inj hm
 refine retQ_ret results13 (Res.tmp rfl (Res.tmp rfl Res.nil)) rfl (fun w' s => ⟨s.below, ?_⟩)
 exact ⟨ao3, cap3, rfl, h3.mono s.le_newer, hc4⟩
theorem diagram_Column_con (p_s : Sequence) (p_k : Int) (ao1 : Option Addr) (cap1 : Nat) (w : World) (H : Heap) (hH : Le H (hp w)) (h1 : SL H encStep ao1 p_s.steps) (hc1 : p_s.steps.length ≤ cap1) (hG : Glob H) (r : ((List UInt8) × Int)) (hm : diagram_Column p_s p_k = some r) :
  Con prog 15 [(.agg #[(.int .i64 p_s.actuators), (.slice ao1 p_s.steps.length cap1)]), (.int .i64 p_k)] w H (fun v _ => v = (.tuple #[(mkS r.1), (.int .i64 r.2)])) := by
 unfold diagram_Column at hm
 refine con_of hH func15 rfl 42 ntmps15 rfl ?_
 refine WP.seq (WP.region ?_)
 refine ws rfl (os_box (cs := [(.int .i64 p_s.actuators), (.slice ao1 p_s.steps.length cap1)]) rfl rfl rfl (fun b1 => ?_))
 refine Va rfl (Va rfl (WL.nil (tn (WP.seq (WP.seq (WP.region (V rfl (ov_load_whole (i := 0) isAgg24 sizeOf24 rfl rfl rfl rfl) ?_)))))))
 obtain ⟨r1, e1, hm⟩ := bind_some hm
 refine wo rfl (oq_con (r := (.int .i64 r1)) call40 rfl rfl (fun w' s => ⟨_, (sequence_Check_con p_s ao1 cap1  w' H s.hold h1 hc1 hG r1 e1)⟩)) ?_
 refine Va rfl (WL.nil (tn (WP.seq (WP.region (Vm rfl (V rfl (ov_neq rfl rfl rfl) (WL.nil (tn ?_))))))))
 refine WP.cond rfl (fun hc2 => ?_) (fun hc2 => ?_)
 ·
  replace hm := ite_t hc2 hm
  refine WP.seq (WP.region (Vm rfl (Va rfl (Va rfl (WL.nil (tn (WP.ret (then_ret ?_))))))))
  obtain rfl := Option.some.inj hm
  refine retQ_ret results15 (Res.tmp rfl (Res.tmp rfl Res.nil)) rfl (fun w' s => ⟨s.below, ?_⟩)
  exact rfl
 replace hm := ite_f hc2 hm
 refine WP.skip (tn (WP.seq (WP.seq (WP.region (Vm rfl (V rfl (ov_lss rfl rfl rfl) (Vm rfl ?_)))))))
 refine WL.cut_bool 6 23 (x := ((decide (p_k < 0)) || (decide (p_k ≥ (p_s.steps.length : Int))))) ?_ ?_
 ·
  rcases Bool.eq_false_or_eq_true (decide (p_k < 0)) with hc3 | hc3
  ·
   refine Vi rfl (Idle.no rfl rfl rfl hc3) (Vi rfl (Idle.no rfl rfl rfl hc3) (Vi rfl (Idle.no rfl rfl rfl hc3) (Vi rfl (Idle.no rfl rfl rfl hc3) (Vi rfl (Idle.no rfl rfl rfl hc3) (V rfl (ov_pick_true rfl (guard_eq rfl hc3) rfl) ?_)))))
   exact WL.nil ⟨Sub.cons' rfl (congrArg Value.bool (orT hc3)) (Sub.dropn 6 rfl), fun _ s => s⟩
  refine wy hc3 rfl (ov_move rfl rfl) ?_
  refine wy hc3 rfl (ov_fieldAddr underlying24 rfl rfl rfl sizeOf22 rfl rfl) ?_
  refine wy hc3 rfl (ov_load_box (i := 0) isAgg22 rfl rfl rfl rfl) ?_
  refine wy hc3 rfl (ov_len_slice underlying22 rfl rfl) ?_
  refine wy hc3 rfl (ov_geq rfl rfl rfl) ?_
  refine V rfl (ov_pick_false rfl (guard_eq rfl hc3) rfl) ?_
  exact WL.nil ⟨Sub.cons' rfl (congrArg Value.bool (orF hc3)) (Sub.dropn 6 rfl), fun _ s => s⟩
 refine WL.nil (tn ?_)
 refine WP.cond rfl (fun hc4 => ?_) (fun hc4 => ?_)
 ·
  replace hm := ite_t hc4 hm
  refine WP.seq (WP.region (Va rfl (Va rfl (WL.nil (tn (WP.ret (then_ret ?_)))))))
  obtain rfl := Option.some.inj hm
  refine retQ_ret results15 (Res.tmp rfl (Res.tmp rfl Res.nil)) rfl (fun w' s => ⟨s.below, ?_⟩)
  exact rfl
 replace hm := ite_f hc4 hm
 refine WP.skip (tn (WP.seq (WP.region (Va rfl (WL.nil (tn ?_))))))
 obtain ⟨k1, hk1, hm⟩ := joinK_some hm
 refine WP.seq_join (fun g' S' => ∃ (H2 : Heap) (l3 : (List UInt8)) (ao6 : _) (cap6 : _) (xs2 : _), Le H H2 ∧ RL H2 encByte l3 xs2 ∧ Sub [(7, (.slice ao6 l3.length cap6)), (1000000007, (.bool false))] g' ∧ (∀ w', S' w' → St w H [rowE 5 encByte l3 ao6 cap6 xs2] H2 w') ∧ k1 l3 = some r) ?_ ?_
 ·
  refine WP.seq (WP.region (V rfl (ov_load_whole (i := 0) isAgg24 sizeOf24 rfl rfl rfl rfl) ?_))
  obtain ⟨r2, e2, hm⟩ := bind_some hm
  refine ws rfl (os_con call43 rfl rfl (fun w' s => (diagram_cells_con p_s ao1 cap1  w' H s.hold h1 hc1 hG r2 e2)) (fun rr1 H1 hle1 hR1 => ?_))
  obtain ⟨ao2, cap2, rfl, h2, hc5⟩ := hR1
  refine V rfl (ov_len_slice underlying76 rfl rfl) (Vm rfl (WL.nil (tn (WP.block ?_))))
  have rl1 := RL.nil (α := UInt8) H1 encByte
  refine WP.weaken (fun _ s => s.nilrow 5 (encByte).size) ?_
  refine WP.loop (fun m1 g' S' => ∃ (i1 : Int) (l1 : (List UInt8)) (ao3 : _) (cap3 : _) (xs1 : _), RL H1 encByte l1 xs1 ∧ Sub [(1, (.int .i64 p_k)), (7, (.slice ao3 l1.length cap3)), (25, (.slice ao2 r2.length cap2)), (26, (.int .i64 (r2.length : Int))), (27, (.int .i64 i1)), (1000000007, (.bool false))] g' ∧ (∀ w', S' w' → St w H [rowE 5 encByte l1 ao3 cap3 xs1] H1 w') ∧ diagram_Column_loop1 p_k k1 r2 m1 i1 l1 = some r) ((Int.toNat ((r2.length : Int) - 0) + 1)) ⟨0, ([] : List UInt8), none, 0, [], rl1, (Sub.all rfl), fun w' s => (s.sl [0]), hm⟩ ?_ ?_
  ·
   rintro g' S' ⟨_, _, _, _, _, _, _, _, hm⟩
   exact none_some hm
  rintro m1 g' S' ⟨i1, l1, ao3, cap3, xs1, rl2, hsub1, hS1, hm⟩
  refine WP.sub hsub1 (WP.weaken hS1 ?_)
  rw [diagram_Column_loop1] at hm
  refine WP.seq (WP.region (V rfl (ov_lss rfl rfl rfl) (WL.nil (tn (WP.seq ?_)))))
  refine WP.cond rfl (fun hc6 => ?_) (fun hc6 => ?_)
  ·
   replace hm := ite_t hc6 hm
   refine WP.skip (tn (WP.seq (WP.block (WP.seq (WP.region ?_)))))
   obtain ⟨x1, e3, hm⟩ := bind_some hm
   obtain ⟨h4, h5, h6, cs1, h7, h8⟩ := h2.get e3 (by decide)
   obtain ⟨ao4, cap4, rfl, h3, hc7⟩ := h7
   refine V rfl (ov_indexAddr underlying76 sizeOf78 rfl rfl rfl h4 h5 h6) (V rfl (ov_load_elem (v := (.slice ao4 x1.length cap4)) isAgg78 rfl rfl h8) (Va rfl (WL.nil (tn (WP.region (Vm rfl (Vm rfl (Vm rfl ?_))))))))
   obtain ⟨x2, e4, hm⟩ := bind_some hm
   obtain ⟨h9, h10, h11, cs2, h12, h13⟩ := h3.get e4 (by decide)
   obtain rfl : cs2 = [(.int .u8 x2.first), (.int .u8 x2.second)] := h12
   refine V rfl (ov_indexAddr underlying78 sizeOf80 rfl rfl rfl h9 h10 h11) (V rfl (ov_fieldAddrE underlying80 rfl rfl rfl sizeOf5 rfl rfl) ?_)
   refine V rfl (ov_load_elem (v := (.int .u8 x2.first)) isAgg5 rfl rfl (h13.one (off := 0) rfl)) ?_
   obtain ⟨u1, e5, hm⟩ := bind_some hm
   replace e5 := guardO_some e5
   have rl3 : RL H1 encByte ([(UInt8.ofNat (Int.toNat x2.first))] : List UInt8) [(.int .u8 x2.first)] := RL.byte1 e5
   refine ws rfl (os_buildSlice (cs := [(.int .u8 x2.first)]) (E := 5) (sz := 1) rfl rfl (fun _ => by kernel_rfl) rfl (by decide) (fun b2 => ?_))
   obtain ⟨l2, e6, hm⟩ := bind_some hm
   refine ws rfl (os_app (i := 1) (j := 0) (En := encByte) (xs := xs1) (ys := [(.int .u8 x2.first)]) underlying75 (by kernel_rfl : (prog.info? 5).map (fun i => (i.zero, i.size, i.bytes)) = some (some (.int .u8 0), (encByte).size, 1)) rfl (by decide) rfl rfl rfl rfl rfl rfl rl2 rl3 e6 (fun ao5 cap5 rl4 => ?_))
   refine Va rfl (WL.nil (bn (tn (WP.region (V rfl (ov_add rfl rfl rfl) (Vm rfl (WL.nil (tn ?_))))))))
   exact ⟨(IntKind.wrap .i64 (i1 + 1)), (l1 ++ ([(UInt8.ofNat (Int.toNat x2.first))] : List UInt8)), ao5, cap5, (xs1 ++ [(.int .u8 x2.first)]), rl4, (Sub.all rfl), fun w' s => (s.sl [1]), hm⟩
  replace hm := ite_f hc6 hm
  refine WP.exit (then_exit (then_exit (block_here (tn ?_))))
  exact ⟨H1, l1, ao3, cap3, xs1, hle1, rl2, (Sub.all rfl), fun w' s => s, hm⟩
 rintro g' S' ⟨H2, l3, ao6, cap6, xs2, hle2, rl5, hsub2, hS2, hm⟩
 refine WP.sub hsub2 (WP.weaken hS2 ?_)
 replace hm := (congrFun hk1 l3).symm.trans hm
 refine WP.seq (WP.region (Vm rfl (V rfl (ov_bytes_str_ownB (i := 0) underlying75 underlying9 underlying5 rl5 rfl rfl rfl) (Va rfl (Va rfl (WL.nil (tn (WP.ret ?_))))))))
 obtain rfl := Option.some.inj hm
 refine retQ_ret results15 (Res.tmp rfl (Res.tmp rfl Res.nil)) rfl (fun w' s => ⟨s.below, ?_⟩)
 exact rfl
theorem diagram_Switches_con (p_s : Sequence) (ao1 : Option Addr) (cap1 : Nat) (w : World) (H : Heap) (hH : Le H (hp w)) (h1 : SL H encStep ao1 p_s.steps) (hc1 : p_s.steps.length ≤ cap1) (hG : Glob H) (r : ((List (List UInt8)) × Int)) (hm : diagram_Switches p_s = some r) :
  Con prog 17 [(.agg #[(.int .i64 p_s.actuators), (.slice ao1 p_s.steps.length cap1)])] w H (fun v H' => ∃ (ao2 : Option Addr) (cap2 : Nat), v = (.tuple #[(.slice ao2 r.1.length cap2), (.int .i64 r.2)]) ∧ SL H' encStr ao2 r.1 ∧ r.1.length ≤ cap2) := by
 unfold diagram_Switches at hm
 refine con_of hH func17 rfl 62 ntmps17 rfl ?_
 refine WP.seq (WP.region ?_)
 refine ws rfl (os_box (cs := [(.int .i64 p_s.actuators), (.slice ao1 p_s.steps.length cap1)]) rfl rfl rfl (fun b1 => ?_))
 refine Va rfl (Va rfl (WL.nil (tn (WP.seq (WP.seq (WP.region (V rfl (ov_load_whole (i := 0) isAgg24 sizeOf24 rfl rfl rfl rfl) ?_)))))))
 obtain ⟨r1, e1, hm⟩ := bind_some hm
 refine wo rfl (oq_con (r := (.int .i64 r1)) call40 rfl rfl (fun w' s => ⟨_, (sequence_Check_con p_s ao1 cap1  w' H s.hold h1 hc1 hG r1 e1)⟩)) ?_
 refine Va rfl (WL.nil (tn (WP.seq (WP.region (Vm rfl (V rfl (ov_neq rfl rfl rfl) (WL.nil (tn ?_))))))))
 refine WP.cond rfl (fun hc3 => ?_) (fun hc3 => ?_)
 ·
  replace hm := ite_t hc3 hm
  refine WP.seq (WP.region (Vm rfl (Va rfl (Va rfl (WL.nil (tn (WP.ret (then_ret ?_))))))))
  obtain rfl := Option.some.inj hm
  refine retQ_ret results17 (Res.tmp rfl (Res.tmp rfl Res.nil)) rfl (fun w' s => ⟨s.below, ?_⟩)
  exact ⟨none, 0, rfl, SL.nil _ _ _, Nat.le_refl _⟩
 replace hm := ite_f hc3 hm
 refine WP.skip (tn (WP.seq (WP.region (Va rfl (WL.nil (tn ?_))))))
 obtain ⟨k1, hk1, hm⟩ := joinK_some hm
 refine WP.seq_join (fun g' S' => ∃ (H2 : Heap) (l13 : (List (List UInt8))) (ao18 : _) (cap18 : _) (xs13 : _), Le H H2 ∧ RL H2 encStr l13 xs13 ∧ Sub [(5, (.slice ao18 l13.length cap18)), (1000000007, (.bool false))] g' ∧ (∀ w', S' w' → St w H [rowE 9 encStr l13 ao18 cap18 xs13] H2 w') ∧ k1 l13 = some r) ?_ ?_
 ·
  refine WP.seq (WP.region (V rfl (ov_load_whole (i := 0) isAgg24 sizeOf24 rfl rfl rfl rfl) ?_))
  obtain ⟨r2, e2, hm⟩ := bind_some hm
  refine ws rfl (os_con call43 rfl rfl (fun w' s => (diagram_cells_con p_s ao1 cap1  w' H s.hold h1 hc1 hG r2 e2)) (fun rr1 H1 hle1 hR1 => ?_))
  replace hG := hG.mono hle1
  obtain ⟨ao3, cap3, rfl, h3, hc4⟩ := hR1
  refine V rfl (ov_len_slice underlying76 rfl rfl) (Vm rfl (WL.nil (tn (WP.block ?_))))
  have rl1 := RL.nil (α := (List UInt8)) H1 encStr
  refine WP.weaken (fun _ s => s.nilrow 9 (encStr).size) ?_
  refine WP.loop (fun m1 g' S' => ∃ (i1 : Int) (l1 : (List (List UInt8))) (ao4 : _) (cap4 : _) (xs1 : _), RL H1 encStr l1 xs1 ∧ Sub [(5, (.slice ao4 l1.length cap4)), (20, (.slice ao3 r2.length cap3)), (21, (.int .i64 (r2.length : Int))), (22, (.int .i64 i1)), (1000000007, (.bool false))] g' ∧ (∀ w', S' w' → St w H [rowE 9 encStr l1 ao4 cap4 xs1] H1 w') ∧ diagram_Switches_loop1 k1 r2 m1 i1 l1 = some r) ((Int.toNat ((r2.length : Int) - 0) + 1)) ⟨0, ([] : List (List UInt8)), none, 0, [], rl1, (Sub.all rfl), fun w' s => (s.sl [0]), hm⟩ ?_ ?_
  ·
   rintro g' S' ⟨_, _, _, _, _, _, _, _, hm⟩
   exact none_some hm
  rintro m1 g' S' ⟨i1, l1, ao4, cap4, xs1, rl2, hsub1, hS1, hm⟩
  refine WP.sub hsub1 (WP.weaken hS1 ?_)
  rw [diagram_Switches_loop1] at hm
  refine WP.seq (WP.region (V rfl (ov_lss rfl rfl rfl) (WL.nil (tn (WP.seq ?_)))))
  refine WP.cond rfl (fun hc5 => ?_) (fun hc5 => ?_)
  ·
   replace hm := ite_t hc5 hm
   refine WP.skip (tn ?_)
   obtain ⟨k2, hk2, hm⟩ := joinK_some hm
   refine WP.seq_join (fun g' S' => ∃ (l12 : (List (List UInt8))) (ao17 : _) (cap17 : _) (xs12 : _), RL H1 encStr l12 xs12 ∧ Sub [(5, (.slice ao17 l12.length cap17)), (20, (.slice ao3 r2.length cap3)), (21, (.int .i64 (r2.length : Int))), (22, (.int .i64 i1)), (1000000007, (.bool false))] g' ∧ (∀ w', S' w' → St w H [rowE 9 encStr l12 ao17 cap17 xs12] H1 w') ∧ k2 l12 = some r) ?_ ?_
   ·
    refine WP.block (WP.seq (WP.region (Vm rfl ?_)))
    obtain ⟨x1, e3, hm⟩ := bind_some hm
    obtain ⟨h5, h6, h7, cs1, h8, h9⟩ := h3.get e3 (by decide)
    obtain ⟨ao5, cap5, rfl, h4, hc6⟩ := h8
    refine V rfl (ov_indexAddr underlying76 sizeOf78 rfl rfl rfl h5 h6 h7) (V rfl (ov_load_elem (v := (.slice ao5 x1.length cap5)) isAgg78 rfl rfl h9) (Va rfl (Va rfl (WL.nil (tn (WP.seq (WP.region (V rfl (ov_build (r := (.agg #[(mkS [48]), (mkS [49])])) rfl rfl (fun _ => by kernel_rfl)) (Vm rfl (WL.nil (tn (WP.block ?_))))))))))))
    refine WP.loop (fun m2 g' S' => ∃ (i2 : Int) (l2 : (List (List UInt8))) (ao6 : _) (cap6 : _) (xs2 : _), RL H1 encStr l2 xs2 ∧ Sub [(5, (.slice ao6 l2.length cap6)), (6, (.int .i64 i1)), (7, (.slice ao5 x1.length cap5)), (20, (.slice ao3 r2.length cap3)), (21, (.int .i64 (r2.length : Int))), (22, (.int .i64 i1)), (27, (.agg #[(mkS [48]), (mkS [49])])), (28, (.int .i64 i2)), (1000000007, (.bool false))] g' ∧ (∀ w', S' w' → St w H [rowE 9 encStr l2 ao6 cap6 xs2] H1 w') ∧ diagram_Switches_loop2 i1 k2 x1 m2 i2 l2 = some r) ((Int.toNat (2 - 0) + 1)) ⟨0, l1, ao4, cap4, xs1, rl2, (Sub.all rfl), fun w' s => s, hm⟩ ?_ ?_
    ·
     rintro g' S' ⟨_, _, _, _, _, _, _, _, hm⟩
     exact none_some hm
    rintro m2 g' S' ⟨i2, l2, ao6, cap6, xs2, rl3, hsub2, hS2, hm⟩
    refine WP.sub hsub2 (WP.weaken hS2 ?_)
    rw [diagram_Switches_loop2] at hm
    refine WP.seq (WP.region (V rfl (ov_lss rfl rfl rfl) (WL.nil (tn (WP.seq ?_)))))
    refine WP.cond rfl (fun hc7 => ?_) (fun hc7 => ?_)
    ·
     replace hm := ite_t hc7 hm
     refine WP.skip (tn ?_)
     obtain ⟨k3, hk3, hm⟩ := joinK_some hm
     refine WP.seq_join (fun g' S' => ∃ (l11 : (List (List UInt8))) (ao16 : _) (cap16 : _) (xs11 : _), RL H1 encStr l11 xs11 ∧ Sub [(5, (.slice ao16 l11.length cap16)), (6, (.int .i64 i1)), (7, (.slice ao5 x1.length cap5)), (20, (.slice ao3 r2.length cap3)), (21, (.int .i64 (r2.length : Int))), (22, (.int .i64 i1)), (27, (.agg #[(mkS [48]), (mkS [49])])), (28, (.int .i64 i2)), (1000000007, (.bool false))] g' ∧ (∀ w', S' w' → St w H [rowE 9 encStr l11 ao16 cap16 xs11] H1 w') ∧ k3 l11 = some r) ?_ ?_
     ·
      refine WP.block ?_
      obtain ⟨k4, hk4, hm⟩ := joinK_some hm
      refine WP.seq_join (fun g' S' => ∃ (b4 : Nat) (s1 : (List UInt8)), Sub [(5, (.slice ao6 l2.length cap6)), (6, (.int .i64 i1)), (7, (.slice ao5 x1.length cap5)), (8, (pB b4 0)), (9, (mkS s1)), (20, (.slice ao3 r2.length cap3)), (21, (.int .i64 (r2.length : Int))), (22, (.int .i64 i1)), (27, (.agg #[(mkS [48]), (mkS [49])])), (28, (.int .i64 i2)), (1000000007, (.bool false))] g' ∧ (∀ w', S' w' → St w H [.blk b4 3 [(.int .i64 i2)], rowE 9 encStr l2 ao6 cap6 xs2] H1 w') ∧ k4 s1 = some r) ?_ ?_
      ·
       refine WP.region (Vm rfl ?_)
       rcases Bool.eq_false_or_eq_true (i2 == 0) with hc8 | hc8
       ·
        replace hm := ite_t hc8 hm
        refine V rfl (ov_index_at (j := 0) (cs := [(mkS [48]), (mkS [49])]) (r := (mkS [48])) (eq_of_beq hc8) rfl rfl rfl (fun _ => by kernel_rfl)) ?_
        refine ws rfl (os_alloc (cs := [(.int .i64 0)]) zeroValue3 rfl rfl (fun b2 => ?_))
        refine ws0 rfl (os_store (i := 0) (vs := [(.int .i64 i2)]) (cs' := [(.int .i64 i2)]) sizeOf3 rfl rfl rfl rfl rfl rfl rfl rfl rfl ?_)
        refine Va rfl (WL.nil (tn ?_))
        exact ⟨b2, [48], (Sub.all rfl), fun w' s => s, hm⟩
       replace hm := ite_f hc8 hm
       rcases Bool.eq_false_or_eq_true (i2 == 1) with hc9 | hc9
       ·
        replace hm := ite_t hc9 hm
        refine V rfl (ov_index_at (j := 1) (cs := [(mkS [48]), (mkS [49])]) (r := (mkS [49])) (eq_of_beq hc9) rfl rfl rfl (fun _ => by kernel_rfl)) ?_
        refine ws rfl (os_alloc (cs := [(.int .i64 0)]) zeroValue3 rfl rfl (fun b3 => ?_))
        refine ws0 rfl (os_store (i := 0) (vs := [(.int .i64 i2)]) (cs' := [(.int .i64 i2)]) sizeOf3 rfl rfl rfl rfl rfl rfl rfl rfl rfl ?_)
        refine Va rfl (WL.nil (tn ?_))
        exact ⟨b3, [49], (Sub.all rfl), fun w' s => s, hm⟩
       replace hm := ite_f hc9 hm
       exact (none_some hm).elim
      rintro g' S' ⟨b4, s1, hsub3, hS3, hm⟩
      refine WP.sub hsub3 (WP.weaken hS3 ?_)
      replace hm := (congrFun hk4 s1).symm.trans hm
      refine WP.seq (WP.region (Vm rfl ?_))
      obtain ⟨r3, e4, hm⟩ := bind_some hm
      refine wo rfl (oq_con (r := (mkS r3)) call45 rfl rfl (fun w' s => ⟨_, (diagram_letter_con i1  w' H1 s.hold hG r3 e4)⟩)) ?_
      refine Vm rfl ?_
      obtain ⟨s2, e5, hm⟩ := bind_some hm
      refine V rfl (ov_sadd' e5 rfl rfl rfl) ?_
      obtain ⟨s3, e6, hm⟩ := bind_some hm
      refine V rfl (ov_sadd' e6 rfl rfl rfl) ?_
      obtain ⟨u1, e7, hm⟩ := bind_some hm
      replace e7 := guardO_some e7
      refine ws rfl (os_bytes_own underlying9 underlying75 underlying5 rfl rfl e7 (fun ao7 cap7 xs3 rl4 => ?_))
      refine ws rfl (os_alloc (cs := [(.slice none 0 0)]) zeroValue75 rfl rfl (fun b5 => ?_))
      refine ws0 rfl (os_store (i := 0) (vs := [(.slice ao7 s3.length cap7)]) (cs' := [(.slice ao7 s3.length cap7)]) sizeOf75 rfl rfl rfl rfl rfl rfl rfl rfl rfl ?_)
      refine WL.nil (tn (WP.seq (WP.region (V rfl (ov_makeFunc' (first := []) rfl rfl rfl) (Va rfl (WL.nil (tn ?_)))))))
      obtain ⟨k5, hk5, hm⟩ := joinK_some hm
      refine WP.seq_join (fun g' S' => ∃ (l5 : (List UInt8)) (ao10 : _) (cap10 : _) (xs6 : _), RL H1 encByte l5 xs6 ∧ Sub [(5, (.slice ao6 l2.length cap6)), (6, (.int .i64 i1)), (7, (.slice ao5 x1.length cap5)), (10, (pB b5 0)), (11, (.func (.func 46) #[] #[(pB b4 0), (pB b5 0)])), (20, (.slice ao3 r2.length cap3)), (21, (.int .i64 (r2.length : Int))), (22, (.int .i64 i1)), (27, (.agg #[(mkS [48]), (mkS [49])])), (28, (.int .i64 i2)), (1000000007, (.bool false))] g' ∧ (∀ w', S' w' → St w H [.blk b5 75 [(.slice ao10 l5.length cap10)], .mrow 5 l5.length (.slice ao10 l5.length cap10) xs6, .blk b4 3 [(.int .i64 i2)], rowE 9 encStr l2 ao6 cap6 xs2] H1 w') ∧ k5 l5 = some r) ?_ ?_
      ·
       refine WP.region (Vm rfl ?_)
       obtain ⟨x2, e8, hm⟩ := bind_some hm
       obtain ⟨h10, h11, h12, cs2, h13, h14⟩ := hG.1.1.1.get e8 (by decide)
       obtain rfl : cs2 = [(.int .u8 x2)] := h13
       refine V rfl (ov_indexAddr_globL rfl underlying84 sizeOf5 rfl rfl rfl h10 h11) (V rfl (ov_load_elem (v := (.int .u8 x2)) isAgg5 rfl rfl h14) ?_)
       refine ws rfl (os_inline (cap := [(pB b4 0), (pB b5 0)]) (vs := [(.int .u8 x2)]) call46 rfl rfl rfl func46 rfl 15 ntmps46 rfl (fun w' s => ?_))
       refine WP.seq (WP.seq (WP.region (Vm rfl (Vl 2 isAgg3 rfl ?_))))
       obtain ⟨x3, e9, hm⟩ := bind_some hm
       obtain ⟨h15, h16, h17, cs3, h18, h19⟩ := hG.1.1.1.get e9 (by decide)
       obtain rfl : cs3 = [(.int .u8 x3)] := h18
       refine V rfl (ov_indexAddr_globL rfl underlying84 sizeOf5 rfl rfl rfl h15 h16) (V rfl (ov_load_elem (v := (.int .u8 x3)) isAgg5 rfl rfl h19) (V rfl (ov_eql rfl rfl rfl) (WL.nil (tn ?_))))
       refine WP.cond rfl (fun hc10 => ?_) (fun hc10 => ?_)
       ·
        replace hm := ite_t hc10 hm
        refine WP.seq (WP.region (Vl 0 isAgg75 rfl ?_))
        have rl5 : RL H1 encByte ([35] : List UInt8) [(.int .u8 35)] := RL.one rfl
        refine ws rfl (os_buildSlice (cs := [(.int .u8 35)]) (E := 5) (sz := 1) rfl rfl (fun _ => by kernel_rfl) rfl (by decide) (fun b6 => ?_))
        obtain ⟨l3, e10, hm⟩ := bind_some hm
        refine ws rfl (os_app_m (i := 2) (j := 0) underlying75 (by kernel_rfl : (prog.info? 5).map (fun i => (i.zero, i.size, i.bytes)) = some (some (.int .u8 0), 1, 1)) rfl rfl rfl rfl rfl rl4 rl5 e10 (fun ao8 cap8 xs4 rl6 => ?_))
        refine ws0 rfl (os_store (i := 1) (vs := [(.slice ao8 (s3 ++ ([35] : List UInt8)).length cap8)]) (cs' := [(.slice ao8 (s3 ++ ([35] : List UInt8)).length cap8)]) sizeOf75 rfl rfl rfl rfl rfl rfl rfl rfl rfl ?_)
        refine WL.nil (tn (WP.ret (then_ret ?_)))
        refine retQ_ret (v := (.tuple #[])) results46 Res.nil rfl (fun w' s => ⟨_, ?_, s⟩)
        refine WL.nil (tn ?_)
        exact ⟨(s3 ++ ([35] : List UInt8)), ao8, cap8, xs4, rl6, (Sub.all rfl), fun w' s => (s.sl [1, 2, 3, 4]), hm⟩
       replace hm := ite_f hc10 hm
       refine WP.skip (tn (WP.region (Vl 0 isAgg75 rfl ?_)))
       have rl7 : RL H1 encByte ([46] : List UInt8) [(.int .u8 46)] := RL.one rfl
       refine ws rfl (os_buildSlice (cs := [(.int .u8 46)]) (E := 5) (sz := 1) rfl rfl (fun _ => by kernel_rfl) rfl (by decide) (fun b7 => ?_))
       obtain ⟨l4, e11, hm⟩ := bind_some hm
       refine ws rfl (os_app_m (i := 2) (j := 0) underlying75 (by kernel_rfl : (prog.info? 5).map (fun i => (i.zero, i.size, i.bytes)) = some (some (.int .u8 0), 1, 1)) rfl rfl rfl rfl rfl rl4 rl7 e11 (fun ao9 cap9 xs5 rl8 => ?_))
       refine ws0 rfl (os_store (i := 1) (vs := [(.slice ao9 (s3 ++ ([46] : List UInt8)).length cap9)]) (cs' := [(.slice ao9 (s3 ++ ([46] : List UInt8)).length cap9)]) sizeOf75 rfl rfl rfl rfl rfl rfl rfl rfl rfl ?_)
       refine WL.nil ?_
       refine retQ_end (v := (.tuple #[])) results46 Res.nil rfl (fun w' s => ⟨_, ?_, s⟩)
       refine WL.nil (tn ?_)
       exact ⟨(s3 ++ ([46] : List UInt8)), ao9, cap9, xs5, rl8, (Sub.all rfl), fun w' s => (s.sl [1, 2, 3, 4]), hm⟩
      rintro g' S' ⟨l5, ao10, cap10, xs6, rl9, hsub4, hS4, hm⟩
      refine WP.sub hsub4 (WP.weaken hS4 ?_)
      replace hm := (congrFun hk5 l5).symm.trans hm
      obtain ⟨k6, hk6, hm⟩ := joinK_some hm
      refine WP.seq_join (fun g' S' => ∃ (l9 : (List UInt8)) (ao14 : _) (cap14 : _) (xs10 : _), RL H1 encByte l9 xs10 ∧ Sub [(5, (.slice ao6 l2.length cap6)), (6, (.int .i64 i1)), (7, (.slice ao5 x1.length cap5)), (10, (pB b5 0)), (20, (.slice ao3 r2.length cap3)), (21, (.int .i64 (r2.length : Int))), (22, (.int .i64 i1)), (27, (.agg #[(mkS [48]), (mkS [49])])), (28, (.int .i64 i2)), (1000000007, (.bool false))] g' ∧ (∀ w', S' w' → St w H [.blk b5 75 [(.slice ao14 l9.length cap14)], .mrow 5 l9.length (.slice ao14 l9.length cap14) xs10, rowE 9 encStr l2 ao6 cap6 xs2] H1 w') ∧ k6 l9 = some r) ?_ ?_
      ·
       refine WP.seq (WP.region (Vm rfl (V rfl (ov_len_slice underlying78 rfl rfl) (Vm rfl (WL.nil (tn (WP.block ?_)))))))
       refine WP.loop (fun m3 g' S' => ∃ (i3 : Int) (l6 : (List UInt8)) (ao11 : _) (cap11 : _) (xs7 : _), RL H1 encByte l6 xs7 ∧ Sub [(5, (.slice ao6 l2.length cap6)), (6, (.int .i64 i1)), (7, (.slice ao5 x1.length cap5)), (10, (pB b5 0)), (11, (.func (.func 46) #[] #[(pB b4 0), (pB b5 0)])), (20, (.slice ao3 r2.length cap3)), (21, (.int .i64 (r2.length : Int))), (22, (.int .i64 i1)), (27, (.agg #[(mkS [48]), (mkS [49])])), (28, (.int .i64 i2)), (43, (.slice ao5 x1.length cap5)), (44, (.int .i64 (x1.length : Int))), (45, (.int .i64 i3)), (1000000007, (.bool false))] g' ∧ (∀ w', S' w' → St w H [.blk b5 75 [(.slice ao11 l6.length cap11)], .mrow 5 l6.length (.slice ao11 l6.length cap11) xs7, .blk b4 3 [(.int .i64 i2)], rowE 9 encStr l2 ao6 cap6 xs2] H1 w') ∧ diagram_Switches_loop3 x1 i2 k6 m3 i3 l6 = some r) ((Int.toNat ((x1.length : Int) - 0) + 1)) ⟨0, l5, ao10, cap10, xs6, rl9, (Sub.all rfl), fun w' s => s, hm⟩ ?_ ?_
       ·
        rintro g' S' ⟨_, _, _, _, _, _, _, _, hm⟩
        exact none_some hm
       rintro m3 g' S' ⟨i3, l6, ao11, cap11, xs7, rl10, hsub5, hS5, hm⟩
       refine WP.sub hsub5 (WP.weaken hS5 ?_)
       rw [diagram_Switches_loop3] at hm
       refine WP.seq (WP.region (V rfl (ov_lss rfl rfl rfl) (WL.nil (tn (WP.seq ?_)))))
       refine WP.cond rfl (fun hc11 => ?_) (fun hc11 => ?_)
       ·
        replace hm := ite_t hc11 hm
        refine WP.skip (tn (WP.seq (WP.block (WP.seq (WP.region ?_)))))
        obtain ⟨x4, e12, hm⟩ := bind_some hm
        obtain ⟨h20, h21, h22, cs4, h23, h24⟩ := h4.get e12 (by decide)
        obtain rfl : cs4 = [(.int .u8 x4.first), (.int .u8 x4.second)] := h23
        refine V rfl (ov_indexAddr underlying78 sizeOf80 rfl rfl rfl h20 h21 h22) (V rfl (ov_load_elems (vs := [(.int .u8 x4.first), (.int .u8 x4.second)]) isAgg80 sizeOf80 rfl rfl rfl h24 h22) ?_)
        refine ws rfl (os_alloc (cs := [(.int .u8 0), (.int .u8 0)]) zeroValue80 rfl rfl (fun b8 => ?_))
        refine ws0 rfl (os_store (i := 0) (vs := [(.int .u8 x4.first), (.int .u8 x4.second)]) (cs' := [(.int .u8 x4.first), (.int .u8 x4.second)]) sizeOf80 rfl rfl rfl rfl rfl rfl rfl rfl rfl ?_)
        refine WL.nil (tn (WP.region (Vm rfl (V rfl (ov_fieldAddr underlying80 rfl rfl rfl sizeOf5 rfl rfl) (Vl 0 isAgg5 rfl ?_)))))
        refine ws rfl (os_inline (cap := [(pB b4 0), (pB b5 0)]) (vs := [(.int .u8 x4.second)]) call46 rfl rfl rfl func46 rfl 15 ntmps46 rfl (fun w' s => ?_))
        refine WP.seq (WP.seq (WP.region (Vm rfl (Vl 3 isAgg3 rfl ?_))))
        obtain ⟨x5, e13, hm⟩ := bind_some hm
        obtain ⟨h25, h26, h27, cs5, h28, h29⟩ := hG.1.1.1.get e13 (by decide)
        obtain rfl : cs5 = [(.int .u8 x5)] := h28
        refine V rfl (ov_indexAddr_globL rfl underlying84 sizeOf5 rfl rfl rfl h25 h26) (V rfl (ov_load_elem (v := (.int .u8 x5)) isAgg5 rfl rfl h29) (V rfl (ov_eql rfl rfl rfl) (WL.nil (tn ?_))))
        refine WP.cond rfl (fun hc12 => ?_) (fun hc12 => ?_)
        ·
         replace hm := ite_t hc12 hm
         refine WP.seq (WP.region (Vl 1 isAgg75 rfl ?_))
         have rl11 : RL H1 encByte ([35] : List UInt8) [(.int .u8 35)] := RL.one rfl
         refine ws rfl (os_buildSlice (cs := [(.int .u8 35)]) (E := 5) (sz := 1) rfl rfl (fun _ => by kernel_rfl) rfl (by decide) (fun b9 => ?_))
         obtain ⟨l7, e14, hm⟩ := bind_some hm
         refine ws rfl (os_app_m (i := 3) (j := 0) underlying75 (by kernel_rfl : (prog.info? 5).map (fun i => (i.zero, i.size, i.bytes)) = some (some (.int .u8 0), 1, 1)) rfl rfl rfl rfl rfl rl10 rl11 e14 (fun ao12 cap12 xs8 rl12 => ?_))
         refine ws0 rfl (os_store (i := 2) (vs := [(.slice ao12 (l6 ++ ([35] : List UInt8)).length cap12)]) (cs' := [(.slice ao12 (l6 ++ ([35] : List UInt8)).length cap12)]) sizeOf75 rfl rfl rfl rfl rfl rfl rfl rfl rfl ?_)
         refine WL.nil (tn (WP.ret (then_ret ?_)))
         refine retQ_ret (v := (.tuple #[])) results46 Res.nil rfl (fun w' s => ⟨_, ?_, s⟩)
         refine WL.nil (bn (tn (WP.region (V rfl (ov_add rfl rfl rfl) (Vm rfl (WL.nil (tn ?_)))))))
         exact ⟨(IntKind.wrap .i64 (i3 + 1)), (l6 ++ ([35] : List UInt8)), ao12, cap12, xs8, rl12, (Sub.all rfl), fun w' s => (s.sl [2, 3, 4, 5]), hm⟩
        replace hm := ite_f hc12 hm
        refine WP.skip (tn (WP.region (Vl 1 isAgg75 rfl ?_)))
        have rl13 : RL H1 encByte ([46] : List UInt8) [(.int .u8 46)] := RL.one rfl
        refine ws rfl (os_buildSlice (cs := [(.int .u8 46)]) (E := 5) (sz := 1) rfl rfl (fun _ => by kernel_rfl) rfl (by decide) (fun b10 => ?_))
        obtain ⟨l8, e15, hm⟩ := bind_some hm
        refine ws rfl (os_app_m (i := 3) (j := 0) underlying75 (by kernel_rfl : (prog.info? 5).map (fun i => (i.zero, i.size, i.bytes)) = some (some (.int .u8 0), 1, 1)) rfl rfl rfl rfl rfl rl10 rl13 e15 (fun ao13 cap13 xs9 rl14 => ?_))
        refine ws0 rfl (os_store (i := 2) (vs := [(.slice ao13 (l6 ++ ([46] : List UInt8)).length cap13)]) (cs' := [(.slice ao13 (l6 ++ ([46] : List UInt8)).length cap13)]) sizeOf75 rfl rfl rfl rfl rfl rfl rfl rfl rfl ?_)
        refine WL.nil ?_
        refine retQ_end (v := (.tuple #[])) results46 Res.nil rfl (fun w' s => ⟨_, ?_, s⟩)
        refine WL.nil (bn (tn (WP.region (V rfl (ov_add rfl rfl rfl) (Vm rfl (WL.nil (tn ?_)))))))
        exact ⟨(IntKind.wrap .i64 (i3 + 1)), (l6 ++ ([46] : List UInt8)), ao13, cap13, xs9, rl14, (Sub.all rfl), fun w' s => (s.sl [2, 3, 4, 5]), hm⟩
       replace hm := ite_f hc11 hm
       refine WP.exit (then_exit (then_exit (block_here (tn ?_))))
       exact ⟨l6, ao11, cap11, xs7, rl10, (Sub.all rfl), fun w' s => (s.sl [0, 1, 3]), hm⟩
      rintro g' S' ⟨l9, ao14, cap14, xs10, rl15, hsub6, hS6, hm⟩
      refine WP.sub hsub6 (WP.weaken hS6 ?_)
      replace hm := (congrFun hk6 l9).symm.trans hm
      refine WP.region (Vm rfl (Vl 0 isAgg75 rfl (V rfl (ov_bytes_str_ownBm (i := 1) underlying75 underlying9 underlying5 rl15 rfl rfl rfl) ?_)))
      have rl16 : RL H1 encStr ([l9] : List (List UInt8)) [(mkS l9)] := RL.cons (cs := [(mkS l9)]) (xs := []) rfl (RL.nil _ _)
      refine ws rfl (os_buildSlice (cs := [(mkS l9)]) (E := 9) (sz := 1) rfl rfl (fun _ => by kernel_rfl) rfl (by decide) (fun b11 => ?_))
      obtain ⟨l10, e16, hm⟩ := bind_some hm
      refine ws rfl (os_app (i := 3) (j := 0) (En := encStr) (xs := xs2) (ys := [(mkS l9)]) underlying27 (by kernel_rfl : (prog.info? 9).map (fun i => (i.zero, i.size, i.bytes)) = some (some (mkS []), (encStr).size, 16)) rfl (by decide) rfl rfl rfl rfl rfl rfl rl3 rl16 e16 (fun ao15 cap15 rl17 => ?_))
      refine Va rfl (WL.nil (bn (tn ?_)))
      exact ⟨(l2 ++ ([l9] : List (List UInt8))), ao15, cap15, (xs2 ++ [(mkS l9)]), rl17, (Sub.all rfl), fun w' s => (s.sl [3]), hm⟩
     rintro g' S' ⟨l11, ao16, cap16, xs11, rl18, hsub7, hS7, hm⟩
     refine WP.sub hsub7 (WP.weaken hS7 ?_)
     replace hm := (congrFun hk3 l11).symm.trans hm
     refine WP.region (V rfl (ov_add rfl rfl rfl) (Vm rfl (WL.nil (tn ?_))))
     exact ⟨(IntKind.wrap .i64 (i2 + 1)), l11, ao16, cap16, xs11, rl18, (Sub.all rfl), fun w' s => s, hm⟩
    replace hm := ite_f hc7 hm
    refine WP.exit (then_exit (then_exit (block_here (bn (tn ?_)))))
    exact ⟨l2, ao6, cap6, xs2, rl3, (Sub.all rfl), fun w' s => s, hm⟩
   rintro g' S' ⟨l12, ao17, cap17, xs12, rl19, hsub8, hS8, hm⟩
   refine WP.sub hsub8 (WP.weaken hS8 ?_)
   replace hm := (congrFun hk2 l12).symm.trans hm
   refine WP.region (V rfl (ov_add rfl rfl rfl) (Vm rfl (WL.nil (tn ?_))))
   exact ⟨(IntKind.wrap .i64 (i1 + 1)), l12, ao17, cap17, xs12, rl19, (Sub.all rfl), fun w' s => s, hm⟩
  replace hm := ite_f hc5 hm
  refine WP.exit (then_exit (then_exit (block_here (tn ?_))))
  exact ⟨H1, l1, ao4, cap4, xs1, hle1, rl2, (Sub.all rfl), fun w' s => s, hm⟩
 rintro g' S' ⟨H2, l13, ao18, cap18, xs13, hle2, rl20, hsub9, hS9, hm⟩
 refine WP.sub hsub9 (WP.weaken hS9 ?_)
 replace hm := (congrFun hk1 l13).symm.trans hm
 refine WP.seq (WP.region (Vm rfl (Va rfl (Va rfl (WL.nil (tn (WP.ret ?_)))))))
 obtain rfl := Option.some.inj hm
 refine retQ_ret results17 (Res.tmp rfl (Res.tmp rfl Res.nil)) rfl (fun w' s => ⟨s.below, ?_⟩)
 obtain ⟨h30, hc13⟩ := s.ret_row (i := 0) rfl rl20
 exact ⟨ao18, cap18, rfl, h30, hc13⟩
theorem slices_Equal_stringstring_con (p_s1 : (List (List UInt8))) (p_s2 : (List (List UInt8))) (ao1 : Option Addr) (cap1 : Nat) (ao2 : Option Addr) (cap2 : Nat) (w : World) (H : Heap) (hH : Le H (hp w)) (h1 : SL H encStr ao1 p_s1) (hc1 : p_s1.length ≤ cap1) (h2 : SL H encStr ao2 p_s2) (hc2 : p_s2.length ≤ cap2) (hG : Glob H) (r : Bool) (hm : slices_Equal_stringstring p_s1 p_s2 = some r) :
  Con prog 19 [(.slice ao1 p_s1.length cap1), (.slice ao2 p_s2.length cap2)] w H (fun v _ => v = (.bool r)) := by
 unfold slices_Equal_stringstring at hm
 refine con_of hH func19 rfl 26 ntmps19 rfl ?_
 refine WP.seq (WP.region (Va rfl (WL.nil (tn (WP.seq (WP.seq (WP.region (Vm rfl (V rfl (ov_len_slice underlying27 rfl rfl) (Vm rfl (V rfl (ov_len_slice underlying27 rfl rfl) (V rfl (ov_neq rfl rfl rfl) (WL.nil ?_)))))))))))))
 refine tn ?_
 refine WP.cond rfl (fun hc3 => ?_) (fun hc3 => ?_)
 ·
  replace hm := ite_t hc3 hm
  refine WP.seq (WP.region (Va rfl (WL.nil (tn (WP.ret (then_ret ?_))))))
  obtain rfl := Option.some.inj hm
  refine retQ_ret results19 (Res.tmp rfl Res.nil) rfl (fun w' s => ⟨s.below, ?_⟩)
  exact rfl
 replace hm := ite_f hc3 hm
 refine WP.skip (tn ?_)
 obtain ⟨k1, hk1, hm⟩ := joinK_some hm
 refine WP.seq_join (fun g' S' => Sub [(1000000007, (.bool false))] g' ∧ (∀ w', S' w' → St w H [] H w') ∧ k1 = some r) ?_ ?_
 ·
  refine WP.seq (WP.region (Vm rfl (V rfl (ov_len_slice underlying27 rfl rfl) (Vm rfl (WL.nil (tn (WP.block ?_)))))))
  refine WP.loop (fun m1 g' S' => ∃ (i1 : Int), Sub [(0, (.slice ao1 p_s1.length cap1)), (1, (.slice ao2 p_s2.length cap2)), (12, (.int .i64 (p_s1.length : Int))), (13, (.int .i64 i1)), (1000000007, (.bool false))] g' ∧ (∀ w', S' w' → St w H [] H w') ∧ slices_Equal_stringstring_loop1 p_s1 p_s2 k1 m1 i1 = some r) ((Int.toNat ((p_s1.length : Int) - 0) + 1)) ⟨0, (Sub.all rfl), fun w' s => s, hm⟩ ?_ ?_
  ·
   rintro g' S' ⟨_, _, _, hm⟩
   exact none_some hm
  rintro m1 g' S' ⟨i1, hsub1, hS1, hm⟩
  refine WP.sub hsub1 (WP.weaken hS1 ?_)
  rw [slices_Equal_stringstring_loop1] at hm
  refine WP.seq (WP.region (V rfl (ov_lss rfl rfl rfl) (WL.nil (tn (WP.seq ?_)))))
  refine WP.cond rfl (fun hc4 => ?_) (fun hc4 => ?_)
  ·
   replace hm := ite_t hc4 hm
   refine WP.skip (tn (WP.seq (WP.block (WP.seq (WP.region (Vm rfl (Va rfl (WL.nil (tn (WP.seq ?_))))))))))
   refine WP.region_draws (by kernel_rfl) (by kernel_rfl) (fun _ s => s.drew) ?_
   refine qf rfl (ov_move rfl rfl) ?_
   refine qf rfl (ov_move rfl rfl) ?_
   obtain ⟨x1, e1, hm⟩ := bind_some hm
   obtain ⟨h3, h4, h5, cs1, h6, h7⟩ := h1.get e1 (by decide)
   obtain rfl : cs1 = [(mkS x1)] := h6
   refine qf rfl (ov_indexAddr underlying27 sizeOf9 rfl rfl rfl h3 h4 h5) ?_
   refine qf rfl (ov_load_elem (v := (mkS x1)) isAgg9 rfl rfl h7) ?_
   refine qf rfl (ov_move rfl rfl) ?_
   refine qf rfl (ov_move rfl rfl) ?_
   obtain ⟨x2, e2, hm⟩ := bind_some hm
   obtain ⟨h8, h9, h10, cs2, h11, h12⟩ := h2.get e2 (by decide)
   obtain rfl : cs2 = [(mkS x2)] := h11
   refine qf rfl (ov_indexAddr underlying27 sizeOf9 rfl rfl rfl h8 h9 h10) ?_
   refine qf rfl (ov_load_elem (v := (mkS x2)) isAgg9 rfl rfl h12) ?_
   refine qf rfl (ov_sneq rfl rfl rfl) ?_
   refine QL.nil ?_
   refine tn ?_
   refine WP.cond rfl (fun hc5 => ?_) (fun hc5 => ?_)
   ·
    replace hm := ite_t hc5 hm
    refine WP.seq (WP.region (Va rfl (WL.nil (tn (WP.ret (block_ret (then_ret (then_ret (block_ret (then_ret ?_))))))))))
    obtain rfl := Option.some.inj hm
    refine retQ_ret results19 (Res.tmp rfl Res.nil) rfl (fun w' s => ⟨s.below, ?_⟩)
    exact rfl
   replace hm := ite_f hc5 hm
   refine WP.skip (bn (tn (WP.region (V rfl (ov_add rfl rfl rfl) (Vm rfl (WL.nil (tn ?_)))))))
   exact ⟨(IntKind.wrap .i64 (i1 + 1)), (Sub.all rfl), fun w' s => s, hm⟩
  replace hm := ite_f hc4 hm
  refine WP.exit (then_exit (then_exit (block_here (tn ?_))))
  exact ⟨(Sub.all rfl), fun w' s => s, hm⟩
 rintro g' S' ⟨hsub2, hS2, hm⟩
 refine WP.sub hsub2 (WP.weaken hS2 ?_)
 replace hm := hk1.symm.trans hm
 refine WP.seq (WP.region (Va rfl (WL.nil (tn (WP.ret ?_)))))
 obtain rfl := Option.some.inj hm
 refine retQ_ret results19 (Res.tmp rfl Res.nil) rfl (fun w' s => ⟨s.below, ?_⟩)
 exact rfl
theorem diagram_Marks_con (p_s : Sequence) (p_before : (List Int)) (ao1 : Option Addr) (cap1 : Nat) (ao2 : Option Addr) (cap2 : Nat) (w : World) (H : Heap) (hH : Le H (hp w)) (h1 : SL H encStep ao1 p_s.steps) (hc1 : p_s.steps.length ≤ cap1) (h2 : SL H (encInt .i64) ao2 p_before) (hc2 : p_before.length ≤ cap2) (hG : Glob H) (r : ((List (List UInt8)) × Int)) (hm : diagram_Marks p_s p_before = some r) :
  Con prog 20 [(.agg #[(.int .i64 p_s.actuators), (.slice ao1 p_s.steps.length cap1)]), (.slice ao2 p_before.length cap2)] w H (fun v H' => ∃ (ao3 : Option Addr) (cap3 : Nat), v = (.tuple #[(.slice ao3 r.1.length cap3), (.int .i64 r.2)]) ∧ SL H' encStr ao3 r.1 ∧ r.1.length ≤ cap3) := by
 unfold diagram_Marks at hm
 refine con_of hH func20 rfl 47 ntmps20 rfl ?_
 refine WP.seq (WP.region ?_)
 refine ws rfl (os_box (cs := [(.int .i64 p_s.actuators), (.slice ao1 p_s.steps.length cap1)]) rfl rfl rfl (fun b1 => ?_))
 refine ws rfl (os_box (cs := [(.slice ao2 p_before.length cap2)]) rfl rfl rfl (fun b2 => ?_))
 refine Va rfl (Va rfl (WL.nil (tn (WP.seq (WP.seq (WP.region (V rfl (ov_load_whole (i := 1) isAgg24 sizeOf24 rfl rfl rfl rfl) ?_)))))))
 obtain ⟨r1, e1, hm⟩ := bind_some hm
 refine wo rfl (oq_con (r := (.int .i64 r1)) call40 rfl rfl (fun w' s => ⟨_, (sequence_Check_con p_s ao1 cap1  w' H s.hold h1 hc1 hG r1 e1)⟩)) ?_
 refine Va rfl (WL.nil (tn (WP.seq (WP.region (Vm rfl (V rfl (ov_neq rfl rfl rfl) (WL.nil (tn ?_))))))))
 refine WP.cond rfl (fun hc4 => ?_) (fun hc4 => ?_)
 ·
  replace hm := ite_t hc4 hm
  refine WP.seq (WP.region (Vm rfl (Va rfl (Va rfl (WL.nil (tn (WP.ret (then_ret ?_))))))))
  obtain rfl := Option.some.inj hm
  refine retQ_ret results20 (Res.tmp rfl (Res.tmp rfl Res.nil)) rfl (fun w' s => ⟨s.below, ?_⟩)
  exact ⟨none, 0, rfl, SL.nil _ _ _, Nat.le_refl _⟩
 replace hm := ite_f hc4 hm
 refine WP.skip (tn ?_)
 obtain ⟨k1, hk1, hm⟩ := joinK_some hm
 refine WP.seq_join (fun g' S' => Sub [(2, (pB b1 0)), (3, (pB b2 0)), (1000000007, (.bool false))] g' ∧ (∀ w', S' w' → St w H [.blk b2 39 [(.slice ao2 p_before.length cap2)], .blk b1 24 [(.int .i64 p_s.actuators), (.slice ao1 p_s.steps.length cap1)]] H w') ∧ k1 = some r) ?_ ?_
 ·
  refine WP.seq (WP.region (Vl 0 isAgg39 rfl (V rfl (ov_len_slice underlying39 rfl rfl) (Vm rfl (WL.nil (tn (WP.block ?_)))))))
  refine WP.loop (fun m1 g' S' => ∃ (i1 : Int), Sub [(2, (pB b1 0)), (3, (pB b2 0)), (14, (.slice ao2 p_before.length cap2)), (15, (.int .i64 (p_before.length : Int))), (16, (.int .i64 i1)), (1000000007, (.bool false))] g' ∧ (∀ w', S' w' → St w H [.blk b2 39 [(.slice ao2 p_before.length cap2)], .blk b1 24 [(.int .i64 p_s.actuators), (.slice ao1 p_s.steps.length cap1)]] H w') ∧ diagram_Marks_loop1 p_s p_before k1 m1 i1 = some r) ((Int.toNat ((p_before.length : Int) - 0) + 1)) ⟨0, (Sub.all rfl), fun w' s => s, hm⟩ ?_ ?_
  ·
   rintro g' S' ⟨_, _, _, hm⟩
   exact none_some hm
  rintro m1 g' S' ⟨i1, hsub1, hS1, hm⟩
  refine WP.sub hsub1 (WP.weaken hS1 ?_)
  rw [diagram_Marks_loop1] at hm
  refine WP.seq (WP.region (V rfl (ov_lss rfl rfl rfl) (WL.nil (tn (WP.seq ?_)))))
  refine WP.cond rfl (fun hc5 => ?_) (fun hc5 => ?_)
  ·
   replace hm := ite_t hc5 hm
   refine WP.skip (tn (WP.seq (WP.block (WP.seq (WP.region (Vm rfl ?_))))))
   obtain ⟨x1, e2, hm⟩ := bind_some hm
   obtain ⟨h4, h5, h6, cs1, h7, h8⟩ := h2.get e2 (by decide)
   obtain rfl : cs1 = [(.int .i64 x1)] := h7
   refine V rfl (ov_indexAddr underlying39 sizeOf3 rfl rfl rfl h4 h5 h6) (V rfl (ov_load_elem (v := (.int .i64 x1)) isAgg3 rfl rfl h8) (Va rfl (Va rfl (WL.nil (tn (WP.block (WP.seq (WP.region (Vm rfl (V rfl (ov_lss rfl rfl rfl) (Vm rfl ?_)))))))))))
   refine WL.cut_bool 6 30 (x := ((decide (x1 < 0)) || (decide (x1 ≥ (p_s.steps.length : Int))))) ?_ ?_
   ·
    rcases Bool.eq_false_or_eq_true (decide (x1 < 0)) with hc6 | hc6
    ·
     refine Vi rfl (Idle.no rfl rfl rfl hc6) (Vi rfl (Idle.no rfl rfl rfl hc6) (Vi rfl (Idle.no rfl rfl rfl hc6) (Vi rfl (Idle.no rfl rfl rfl hc6) (Vi rfl (Idle.no rfl rfl rfl hc6) (V rfl (ov_pick_true rfl (guard_eq rfl hc6) rfl) ?_)))))
     exact WL.nil ⟨Sub.cons' rfl (congrArg Value.bool (orT hc6)) (Sub.dropn 6 rfl), fun _ s => s⟩
    refine wy hc6 rfl (ov_move rfl rfl) ?_
    refine wy hc6 rfl (ov_fieldAddr underlying24 rfl rfl rfl sizeOf22 rfl rfl) ?_
    refine wy hc6 rfl (ov_load_box (i := 1) isAgg22 rfl rfl rfl rfl) ?_
    refine wy hc6 rfl (ov_len_slice underlying22 rfl rfl) ?_
    refine wy hc6 rfl (ov_geq rfl rfl rfl) ?_
    refine V rfl (ov_pick_false rfl (guard_eq rfl hc6) rfl) ?_
    exact WL.nil ⟨Sub.cons' rfl (congrArg Value.bool (orF hc6)) (Sub.dropn 6 rfl), fun _ s => s⟩
   refine Va rfl (WL.nil (tn ?_))
   refine WP.cond rfl (fun hc7 => ?_) (fun hc7 => ?_)
   ·
    replace hm := ite_t hc7 hm
    refine WP.seq (WP.region (Va rfl (Va rfl (WL.nil (tn (WP.ret (block_ret (block_ret (then_ret (then_ret (block_ret (then_ret ?_))))))))))))
    obtain rfl := Option.some.inj hm
    refine retQ_ret results20 (Res.tmp rfl (Res.tmp rfl Res.nil)) rfl (fun w' s => ⟨s.below, ?_⟩)
    exact ⟨none, 0, rfl, SL.nil _ _ _, Nat.le_refl _⟩
   replace hm := ite_f hc7 hm
   refine WP.seq (WP.region (Vm rfl (V rfl (ov_gtr rfl rfl rfl) (Vm rfl ?_))))
   obtain ⟨c1, e3, hm⟩ := bind_some hm
   refine WL.cut_bool 8 42 (x := c1) ?_ ?_
   ·
    rcases Bool.eq_false_or_eq_true (decide (i1 > 0)) with hc8 | hc8
    ·
     replace hm := ite_t hc8 e3
     refine wy hc8 rfl (ov_move rfl rfl) ?_
     refine wy hc8 rfl (ov_load_box (i := 0) isAgg39 rfl rfl rfl rfl) ?_
     refine wy hc8 rfl (ov_move rfl rfl) ?_
     refine wy hc8 rfl (ov_sub rfl rfl rfl) ?_
     obtain ⟨x2, e4, hm⟩ := bind_some hm
     obtain ⟨h9, h10, h11, cs2, h12, h13⟩ := h2.get e4 (by decide)
     obtain rfl : cs2 = [(.int .i64 x2)] := h12
     refine wy hc8 rfl (ov_indexAddr underlying39 sizeOf3 rfl rfl rfl h9 h10 h11) ?_
     refine wy hc8 rfl (ov_load_elem (v := (.int .i64 x2)) isAgg3 rfl rfl h13) ?_
     refine wy hc8 rfl (ov_leq rfl rfl rfl) ?_
     refine V rfl (ov_pick_true rfl (guard_eq rfl hc8) rfl) ?_
     exact WL.nil ⟨Sub.cons' rfl (congrArg Value.bool (Option.some.inj hm)) (Sub.dropn 8 rfl), fun _ s => s⟩
    replace hm := ite_f hc8 e3
    refine Vi rfl (Idle.no rfl rfl rfl hc8) (Vi rfl (Idle.no rfl rfl rfl hc8) (Vi rfl (Idle.no rfl rfl rfl hc8) (Vi rfl (Idle.no rfl rfl rfl hc8) (Vi rfl (Idle.no rfl rfl rfl hc8) (Vi rfl (Idle.no rfl rfl rfl hc8) (Vi rfl (Idle.no rfl rfl rfl hc8) (V rfl (ov_pick_false rfl (guard_eq rfl hc8) rfl) ?_)))))))
    exact WL.nil ⟨Sub.cons' rfl (congrArg Value.bool (Option.some.inj hm)) (Sub.dropn 8 rfl), fun _ s => s⟩
   refine Va rfl (WL.nil (tn ?_))
   refine WP.cond rfl (fun hc9 => ?_) (fun hc9 => ?_)
   ·
    replace hm := ite_t hc9 hm
    refine WP.seq (WP.region (Va rfl (Va rfl (WL.nil (tn (WP.ret (block_ret (block_ret (then_ret (then_ret (block_ret (then_ret ?_))))))))))))
    obtain rfl := Option.some.inj hm
    refine retQ_ret results20 (Res.tmp rfl (Res.tmp rfl Res.nil)) rfl (fun w' s => ⟨s.below, ?_⟩)
    exact ⟨none, 0, rfl, SL.nil _ _ _, Nat.le_refl _⟩
   replace hm := ite_f hc9 hm
   refine WP.skip (bn (bn (tn (WP.region (V rfl (ov_add rfl rfl rfl) (Vm rfl (WL.nil (tn ?_))))))))
   exact ⟨(IntKind.wrap .i64 (i1 + 1)), (Sub.all rfl), fun w' s => s, hm⟩
  replace hm := ite_f hc5 hm
  refine WP.exit (then_exit (then_exit (block_here (tn ?_))))
  exact ⟨(Sub.all rfl), fun w' s => s, hm⟩
 rintro g' S' ⟨hsub2, hS2, hm⟩
 refine WP.sub hsub2 (WP.weaken hS2 ?_)
 replace hm := hk1.symm.trans hm
 refine WP.seq (WP.region (V rfl (ov_load_whole (i := 1) isAgg24 sizeOf24 rfl rfl rfl rfl) (V rfl (ov_makeFunc' (first := []) rfl rfl rfl) ?_)))
 refine ws rfl (os_inline (cap := []) (vs := [(.agg #[(.int .i64 p_s.actuators), (.slice ao1 p_s.steps.length cap1)]), (.func (.func 50) #[] #[(pB b2 0)])]) call49 rfl rfl rfl func49 rfl 46 ntmps49 rfl (fun w' s => ?_))
 refine WP.seq (WP.region ?_)
 refine ws rfl (os_box (cs := [(.int .i64 p_s.actuators), (.slice ao1 p_s.steps.length cap1)]) rfl rfl rfl (fun b3 => ?_))
 refine Va rfl (WL.nil (tn (WP.seq (WP.region (Va rfl (WL.nil (tn ?_)))))))
 obtain ⟨k2, hk2, hm⟩ := joinK_some hm
 refine WP.seq_join (fun g' S' => ∃ (H2 : Heap) (l11 : (List (List UInt8))) (ao16 : _) (cap16 : _) (xs6 : _), Le H H2 ∧ RL H2 encStr l11 xs6 ∧ Sub [(5, (.slice ao16 l11.length cap16)), (1000000007, (.bool false))] g' ∧ (∀ w', S' w' → St w H [rowE 9 encStr l11 ao16 cap16 xs6, .blk b2 39 [(.slice ao2 p_before.length cap2)], .blk b1 24 [(.int .i64 p_s.actuators), (.slice ao1 p_s.steps.length cap1)]] H2 w') ∧ k2 l11 = some r) ?_ ?_
 ·
  refine WP.seq (WP.region (V rfl (ov_load_whole (i := 0) isAgg24 sizeOf24 rfl rfl rfl rfl) ?_))
  obtain ⟨r2, e5, hm⟩ := bind_some hm
  refine ws rfl (os_con call43 rfl rfl (fun w' s => (diagram_cells_con p_s ao1 cap1  w' H s.hold h1 hc1 hG r2 e5)) (fun rr1 H1 hle1 hR1 => ?_))
  replace h1 := h1.mono hle1
  replace h2 := h2.mono hle1
  replace hG := hG.mono hle1
  obtain ⟨ao4, cap4, rfl, h14, hc10⟩ := hR1
  refine V rfl (ov_len_slice underlying76 rfl rfl) (Vm rfl (WL.nil (tn (WP.block ?_))))
  have rl1 := RL.nil (α := (List UInt8)) H1 encStr
  refine WP.weaken (fun _ s => s.nilrow 9 (encStr).size) ?_
  refine WP.loop (fun m2 g' S' => ∃ (i2 : Int) (l1 : (List (List UInt8))) (ao5 : _) (cap5 : _) (xs1 : _), RL H1 encStr l1 xs1 ∧ Sub [(1, (.func (.func 50) #[] #[(pB b2 0)])), (5, (.slice ao5 l1.length cap5)), (12, (.slice ao4 r2.length cap4)), (13, (.int .i64 (r2.length : Int))), (14, (.int .i64 i2)), (1000000007, (.bool false))] g' ∧ (∀ w', S' w' → St w H [rowE 9 encStr l1 ao5 cap5 xs1, .blk b2 39 [(.slice ao2 p_before.length cap2)], .blk b1 24 [(.int .i64 p_s.actuators), (.slice ao1 p_s.steps.length cap1)]] H1 w') ∧ diagram_Marks_loop2 k2 r2 p_before m2 i2 l1 = some r) ((Int.toNat ((r2.length : Int) - 0) + 1)) ⟨0, ([] : List (List UInt8)), none, 0, [], rl1, (Sub.all rfl), fun w' s => (s.sl [0, 2, 3]), hm⟩ ?_ ?_
  ·
   rintro g' S' ⟨_, _, _, _, _, _, _, _, hm⟩
   exact none_some hm
  rintro m2 g' S' ⟨i2, l1, ao5, cap5, xs1, rl2, hsub3, hS3, hm⟩
  refine WP.sub hsub3 (WP.weaken hS3 ?_)
  rw [diagram_Marks_loop2] at hm
  refine WP.seq (WP.region (V rfl (ov_lss rfl rfl rfl) (WL.nil (tn (WP.seq ?_)))))
  refine WP.cond rfl (fun hc11 => ?_) (fun hc11 => ?_)
  ·
   replace hm := ite_t hc11 hm
   refine WP.skip (tn ?_)
   obtain ⟨k3, hk3, hm⟩ := joinK_some hm
   refine WP.seq_join (fun g' S' => ∃ (l10 : (List (List UInt8))) (ao15 : _) (cap15 : _) (xs5 : _), RL H1 encStr l10 xs5 ∧ Sub [(1, (.func (.func 50) #[] #[(pB b2 0)])), (5, (.slice ao15 l10.length cap15)), (12, (.slice ao4 r2.length cap4)), (13, (.int .i64 (r2.length : Int))), (14, (.int .i64 i2)), (1000000007, (.bool false))] g' ∧ (∀ w', S' w' → St w H [rowE 9 encStr l10 ao15 cap15 xs5, .blk b2 39 [(.slice ao2 p_before.length cap2)], .blk b1 24 [(.int .i64 p_s.actuators), (.slice ao1 p_s.steps.length cap1)]] H1 w') ∧ k3 l10 = some r) ?_ ?_
   ·
    refine WP.block (WP.seq (WP.region (Vm rfl ?_)))
    obtain ⟨x3, e6, hm⟩ := bind_some hm
    obtain ⟨h16, h17, h18, cs3, h19, h20⟩ := h14.get e6 (by decide)
    obtain ⟨ao6, cap6, rfl, h15, hc12⟩ := h19
    refine V rfl (ov_indexAddr underlying76 sizeOf78 rfl rfl rfl h16 h17 h18) (V rfl (ov_load_elem (v := (.slice ao6 x3.length cap6)) isAgg78 rfl rfl h20) (Va rfl (Va rfl (WL.nil (tn (WP.seq (WP.region (V rfl (ov_build (r := (.agg #[(.pointer none), (.slice none 0 0)])) rfl rfl (fun _ => by kernel_rfl)) ?_))))))))
    refine WL.within (fun w1 s1 => ?_)
    have sv1 := h14
    replace h14 := h14.mono s1.hold
    have sv2 := h20
    replace h20 := h20.mono s1.hold
    have sv3 := h15
    replace h15 := h15.mono s1.hold
    have sv4 := h1
    replace h1 := h1.mono s1.hold
    have sv5 := rl2
    replace rl2 := rl2.mono s1.hold
    have sv6 := h2
    replace h2 := h2.mono s1.hold
    have sv7 := hG
    replace hG := hG.mono s1.hold
    have h21 : RowAt (hp w1) (some ⟨b2, 0, none⟩) 0 [(.slice ao2 p_before.length cap2)] := s1.box_row (i := 1) rfl
    have h22 : RowAt (hp w1) (some ⟨b1, 0, none⟩) 0 [(.int .i64 p_s.actuators), (.slice ao1 p_s.steps.length cap1)] := s1.box_row (i := 2) rfl
    refine ws rfl (os_box (cs := [(.pointer none), (.slice none 0 0)]) rfl rfl rfl (fun b4 => ?_))
    refine Va rfl (WL.nil (tn (WP.seq (WP.region (Vm rfl (Vm rfl ?_))))))
    obtain ⟨r3, e7, hm⟩ := bind_some hm
    refine wo rfl (oq_con (r := (mkS r3)) call45 rfl rfl (fun w' s => ⟨_, (diagram_letter_con i2  w' (hp w1) s.hold hG r3 e7)⟩)) ?_
    obtain ⟨s2, e8, hm⟩ := bind_some hm
    refine V rfl (ov_sadd' e8 rfl rfl rfl) ?_
    refine ws rfl (os_inline (cap := []) (vs := [(pB b4 0), (mkS s2)]) call82 rfl rfl rfl func82 rfl 19 ntmps82 rfl (fun w' s => ?_))
    refine WP.seq (WP.region (Va rfl (Va rfl (WL.nil (tn (WP.seq (WP.region (Vm rfl ?_))))))))
    refine ws rfl (os_copyCheck (i := 0) rfl rfl rfl (.inl rfl) ?_)
    refine WL.nil (tn (WP.seq (WP.region (Vm rfl (Vm rfl (V rfl (ov_nilCheckB rfl rfl) (V rfl (ov_fieldAddr underlying123 rfl rfl rfl sizeOf75 rfl rfl) (Vl 0 isAgg75 rfl (Vm rfl ?_)))))))))
    have rl3 := RL.nil (α := UInt8) (hp w1) encByte
    refine WL.weaken (fun _ s => s.nilrow 5 (encByte).size) ?_
    obtain ⟨l2, e9, hm⟩ := bind_some hm
    refine ws rfl (os_app_str (i := 0) (xs := []) underlying75 underlying9 (by kernel_rfl : (prog.info? 5).map (fun i => (i.zero, i.size, i.bytes)) = some (some (.int .u8 0), 1, 1)) rfl rfl rfl rfl rl3 e9 (fun ao7 cap7 ys1 rl4 => ?_))
    refine V rfl (ov_nilCheckB rfl rfl) (V rfl (ov_fieldAddr underlying123 rfl rfl rfl sizeOf75 rfl rfl) ?_)
    refine ws0 rfl (os_store (i := 1) (vs := [(.slice ao7 (([] : List UInt8) ++ s2).length cap7)]) (cs' := [(pB b4 0), (.slice ao7 (([] : List UInt8) ++ s2).length cap7)]) sizeOf75 rfl rfl rfl rfl rfl rfl rfl rfl rfl ?_)
    refine WL.nil (tn (WP.seq (WP.region (Vm rfl (V rfl (ov_len_string underlying9 rfl rfl) (Va rfl (Va rfl (WL.nil (tn (WP.ret ?_))))))))))
    refine retQ_ret (v := (.tuple #[(.int .i64 (s2.length : Int)), .nilIface])) results82 (Res.tmp rfl (Res.tmp rfl Res.nil)) rfl (fun w' s => ⟨_, ?_, s⟩)
    refine WL.nil (tn ?_)
    obtain ⟨k4, hk4, hm⟩ := joinK_some hm
    refine WP.seq_join (fun g' S' => ∃ (l8 : (List UInt8)) (ao13 : _) (cap13 : _) (xs4 : _), RL (hp w1) encByte l8 xs4 ∧ Sub [(1, (.func (.func 50) #[] #[(pE (some ⟨b2, 0, none⟩) 0)])), (5, (.slice ao5 l1.length cap5)), (8, (pB b4 0)), (12, (.slice ao4 r2.length cap4)), (13, (.int .i64 (r2.length : Int))), (14, (.int .i64 i2)), (1000000007, (.bool false))] g' ∧ (∀ w', S' w' → St w1 (hp w1) [rowE 5 encByte l8 ao13 cap13 xs4, .blk b4 123 [(pB b4 0), (.slice ao13 l8.length cap13)]] (hp w1) w') ∧ k4 l8 = some r) ?_ ?_
    ·
     refine WP.seq (WP.region (Vm rfl (V rfl (ov_len_slice underlying78 rfl rfl) (Vm rfl (WL.nil (tn (WP.block ?_)))))))
     refine WP.loop (fun m3 g' S' => ∃ (i3 : Int) (l3 : (List UInt8)) (ao8 : _) (cap8 : _) (xs2 : _), RL (hp w1) encByte l3 xs2 ∧ Sub [(1, (.func (.func 50) #[] #[(pE (some ⟨b2, 0, none⟩) 0)])), (5, (.slice ao5 l1.length cap5)), (8, (pB b4 0)), (12, (.slice ao4 r2.length cap4)), (13, (.int .i64 (r2.length : Int))), (14, (.int .i64 i2)), (26, (.slice ao6 x3.length cap6)), (27, (.int .i64 (x3.length : Int))), (28, (.int .i64 i3)), (1000000007, (.bool false))] g' ∧ (∀ w', S' w' → St w1 (hp w1) [rowE 5 encByte l3 ao8 cap8 xs2, .blk b4 123 [(pB b4 0), (.slice ao8 l3.length cap8)]] (hp w1) w') ∧ diagram_Marks_loop3 p_before x3 k4 m3 i3 l3 = some r) ((Int.toNat ((x3.length : Int) - 0) + 1)) ⟨0, (([] : List UInt8) ++ s2), ao7, cap7, ([] ++ ys1), rl4, (Sub.all rfl), fun w' s => s, hm⟩ ?_ ?_
     ·
      rintro g' S' ⟨_, _, _, _, _, _, _, _, hm⟩
      exact none_some hm
     rintro m3 g' S' ⟨i3, l3, ao8, cap8, xs2, rl5, hsub4, hS4, hm⟩
     refine WP.sub hsub4 (WP.weaken hS4 ?_)
     rw [diagram_Marks_loop3] at hm
     refine WP.seq (WP.region (V rfl (ov_lss rfl rfl rfl) (WL.nil (tn (WP.seq ?_)))))
     refine WP.cond rfl (fun hc13 => ?_) (fun hc13 => ?_)
     ·
      replace hm := ite_t hc13 hm
      refine WP.skip (tn (WP.seq (WP.block (WP.seq (WP.region (Vm rfl ?_))))))
      obtain ⟨x4, e10, hm⟩ := bind_some hm
      obtain ⟨h23, h24, h25, cs4, h26, h27⟩ := h15.get e10 (by decide)
      obtain rfl : cs4 = [(.int .u8 x4.first), (.int .u8 x4.second)] := h26
      refine V rfl (ov_indexAddr underlying78 sizeOf80 rfl rfl rfl h23 h24 h25) (V rfl (ov_load_elems (vs := [(.int .u8 x4.first), (.int .u8 x4.second)]) isAgg80 sizeOf80 rfl rfl rfl h27 h25) ?_)
      refine ws rfl (os_alloc (cs := [(.int .u8 0), (.int .u8 0)]) zeroValue80 rfl rfl (fun b5 => ?_))
      refine Va rfl ?_
      refine ws0 rfl (os_store (i := 0) (vs := [(.int .u8 x4.first), (.int .u8 x4.second)]) (cs' := [(.int .u8 x4.first), (.int .u8 x4.second)]) sizeOf80 rfl rfl rfl rfl rfl rfl rfl rfl rfl ?_)
      refine WL.nil (tn (WP.region (Vm rfl (Vm rfl (Vm rfl (V rfl (ov_load_whole (i := 0) isAgg80 sizeOf80 rfl rfl rfl rfl) ?_))))))
      refine ws rfl (os_inline (cap := [(pE (some ⟨b2, 0, none⟩) 0)]) (vs := [(pB b4 0), (.int .i64 i3), (.agg #[(.int .u8 x4.first), (.int .u8 x4.second)])]) call50 rfl rfl rfl func50 rfl 16 ntmps50 rfl (fun w' s => ?_))
      refine WP.seq (WP.region ?_)
      refine ws rfl (os_box (cs := [(.int .u8 x4.first), (.int .u8 x4.second)]) rfl rfl rfl (fun b6 => ?_))
      refine WL.nil (tn ?_)
      obtain ⟨k5, hk5, hm⟩ := joinK_some hm
      refine WP.seq_join (fun g' S' => ∃ (l5 : (List UInt8)) (ao10 : _) (cap10 : _) (xs3 : _), RL (hp w1) encByte l5 xs3 ∧ Sub [(0, (pB b4 0)), (1, (.int .i64 i3)), (6, (pB b6 0)), (1000000007, (.bool false))] g' ∧ (∀ w', S' w' → St w1 (hp w1) [.blk b6 80 [(.int .u8 x4.first), (.int .u8 x4.second)], .blk b5 80 [(.int .u8 x4.first), (.int .u8 x4.second)], rowE 5 encByte l5 ao10 cap10 xs3, .blk b4 123 [(pB b4 0), (.slice ao10 l5.length cap10)]] (hp w1) w') ∧ k5 l5 = some r) ?_ ?_
      ·
       refine WP.seq (WP.region (V rfl (ov_load_elem (v := (.slice ao2 p_before.length cap2)) isAgg39 rfl rfl h21) (Vm rfl ?_)))
       obtain ⟨r4, e11, hm⟩ := bind_some hm
       refine wo rfl (oq_con (r := (.bool r4)) call51 rfl rfl (fun w' s => ⟨_, (slices_Contains_intint_con p_before i3 ao2 cap2  w' (hp w1) s.hold h2 hc2 hG r4 e11)⟩)) ?_
       refine WL.nil (tn ?_)
       refine WP.cond rfl (fun hc14 => ?_) (fun hc14 => ?_)
       ·
        replace hm := ite_t hc14 hm
        refine WP.region (Vm rfl ?_)
        refine ws rfl (os_inline (cap := []) (vs := [(pB b4 0), (.int .u8 124)]) call52 rfl rfl rfl func52 rfl 17 ntmps52 rfl (fun w' s => ?_))
        refine WP.seq (WP.region (Va rfl (WL.nil (tn (WP.seq (WP.region (Vm rfl ?_)))))))
        refine ws rfl (os_copyCheck (i := 3) rfl rfl rfl (.inr rfl) ?_)
        refine WL.nil (tn (WP.seq (WP.region (Vm rfl (Vm rfl (V rfl (ov_nilCheckB rfl rfl) (V rfl (ov_fieldAddr underlying123 rfl rfl rfl sizeOf75 rfl rfl) (Vl 3 isAgg75 rfl (Vm rfl ?_)))))))))
        have rl6 : RL (hp w1) encByte ([124] : List UInt8) [(.int .u8 124)] := RL.one rfl
        refine ws rfl (os_buildSlice (cs := [(.int .u8 124)]) (E := 5) (sz := 1) rfl rfl (fun _ => by kernel_rfl) rfl (by decide) (fun b7 => ?_))
        obtain ⟨l4, e12, hm⟩ := bind_some hm
        refine ws rfl (os_app (i := 3) (j := 0) (En := encByte) (xs := xs2) (ys := [(.int .u8 124)]) underlying75 (by kernel_rfl : (prog.info? 5).map (fun i => (i.zero, i.size, i.bytes)) = some (some (.int .u8 0), (encByte).size, 1)) rfl (by decide) rfl rfl rfl rfl rfl rfl rl5 rl6 e12 (fun ao9 cap9 rl7 => ?_))
        refine V rfl (ov_nilCheckB rfl rfl) (V rfl (ov_fieldAddr underlying123 rfl rfl rfl sizeOf75 rfl rfl) ?_)
        refine ws0 rfl (os_store (i := 4) (vs := [(.slice ao9 (l3 ++ ([124] : List UInt8)).length cap9)]) (cs' := [(pB b4 0), (.slice ao9 (l3 ++ ([124] : List UInt8)).length cap9)]) sizeOf75 rfl rfl rfl rfl rfl rfl rfl rfl rfl ?_)
        refine WL.nil (tn (WP.seq (WP.region (Va rfl (WL.nil (tn (WP.ret ?_)))))))
        refine retQ_ret (v := .nilIface) results52 (Res.tmp rfl Res.nil) rfl (fun w' s => ⟨_, ?_, s⟩)
        refine WL.nil (tn ?_)
        exact ⟨(l3 ++ ([124] : List UInt8)), ao9, cap9, (xs2 ++ [(.int .u8 124)]), rl7, (Sub.all rfl), fun w' s => (s.sl [1, 2, 3, 4]), hm⟩
       replace hm := ite_f hc14 hm
       refine WP.skip (tn ?_)
       exact ⟨l3, ao8, cap8, xs2, rl5, (Sub.all rfl), fun w' s => s, hm⟩
      rintro g' S' ⟨l5, ao10, cap10, xs3, rl8, hsub5, hS5, hm⟩
      refine WP.sub hsub5 (WP.weaken hS5 ?_)
      replace hm := (congrFun hk5 l5).symm.trans hm
      refine WP.region (Vm rfl (Vm rfl (V rfl (ov_load_whole (i := 0) isAgg80 sizeOf80 rfl rfl rfl rfl) ?_)))
      refine ws rfl (os_inline (cap := []) (vs := [(pB b4 0), (.int .i64 i3), (.agg #[(.int .u8 x4.first), (.int .u8 x4.second)])]) call53 rfl rfl rfl func53 rfl 14 ntmps53 rfl (fun w' s => ?_))
      refine WP.seq (WP.region ?_)
      refine ws rfl (os_box (cs := [(.int .u8 x4.first), (.int .u8 x4.second)]) rfl rfl rfl (fun b8 => ?_))
      refine WL.nil (tn (WP.seq (WP.region (Vm rfl (V rfl (ov_fieldAddr underlying80 rfl rfl rfl sizeOf5 rfl rfl) (Vl 0 isAgg5 rfl ?_))))))
      refine ws rfl (os_inline (cap := []) (vs := [(pB b4 0), (.int .u8 x4.first)]) call52 rfl rfl rfl func52 rfl 17 ntmps52 rfl (fun w' s => ?_))
      refine WP.seq (WP.region (Va rfl (WL.nil (tn (WP.seq (WP.region (Vm rfl ?_)))))))
      refine ws rfl (os_copyCheck (i := 4) rfl rfl rfl (.inr rfl) ?_)
      refine WL.nil (tn (WP.seq (WP.region (Vm rfl (Vm rfl (V rfl (ov_nilCheckB rfl rfl) (V rfl (ov_fieldAddr underlying123 rfl rfl rfl sizeOf75 rfl rfl) (Vl 4 isAgg75 rfl (Vm rfl ?_)))))))))
      obtain ⟨u1, e13, hm⟩ := bind_some hm
      replace e13 := guardO_some e13
      have rl9 : RL (hp w1) encByte ([(UInt8.ofNat (Int.toNat x4.first))] : List UInt8) [(.int .u8 x4.first)] := RL.byte1 e13
      refine ws rfl (os_buildSlice (cs := [(.int .u8 x4.first)]) (E := 5) (sz := 1) rfl rfl (fun _ => by kernel_rfl) rfl (by decide) (fun b9 => ?_))
      obtain ⟨l6, e14, hm⟩ := bind_some hm
      refine ws rfl (os_app (i := 4) (j := 0) (En := encByte) (xs := xs3) (ys := [(.int .u8 x4.first)]) underlying75 (by kernel_rfl : (prog.info? 5).map (fun i => (i.zero, i.size, i.bytes)) = some (some (.int .u8 0), (encByte).size, 1)) rfl (by decide) rfl rfl rfl rfl rfl rfl rl8 rl9 e14 (fun ao11 cap11 rl10 => ?_))
      refine V rfl (ov_nilCheckB rfl rfl) (V rfl (ov_fieldAddr underlying123 rfl rfl rfl sizeOf75 rfl rfl) ?_)
      refine ws0 rfl (os_store (i := 5) (vs := [(.slice ao11 (l5 ++ ([(UInt8.ofNat (Int.toNat x4.first))] : List UInt8)).length cap11)]) (cs' := [(pB b4 0), (.slice ao11 (l5 ++ ([(UInt8.ofNat (Int.toNat x4.first))] : List UInt8)).length cap11)]) sizeOf75 rfl rfl rfl rfl rfl rfl rfl rfl rfl ?_)
      refine WL.nil (tn (WP.seq (WP.region (Va rfl (WL.nil (tn (WP.ret ?_)))))))
      refine retQ_ret (v := .nilIface) results52 (Res.tmp rfl Res.nil) rfl (fun w' s => ⟨_, ?_, s⟩)
      refine WL.nil (tn (WP.region (Vm rfl (V rfl (ov_fieldAddr underlying80 rfl rfl rfl sizeOf5 rfl rfl) (Vl 1 isAgg5 rfl ?_)))))
      refine ws rfl (os_inline (cap := []) (vs := [(pB b4 0), (.int .u8 x4.second)]) call52 rfl rfl rfl func52 rfl 17 ntmps52 rfl (fun w' s => ?_))
      refine WP.seq (WP.region (Va rfl (WL.nil (tn (WP.seq (WP.region (Vm rfl ?_)))))))
      refine ws rfl (os_copyCheck (i := 5) rfl rfl rfl (.inr rfl) ?_)
      refine WL.nil (tn (WP.seq (WP.region (Vm rfl (Vm rfl (V rfl (ov_nilCheckB rfl rfl) (V rfl (ov_fieldAddr underlying123 rfl rfl rfl sizeOf75 rfl rfl) (Vl 5 isAgg75 rfl (Vm rfl ?_)))))))))
      obtain ⟨u2, e15, hm⟩ := bind_some hm
      replace e15 := guardO_some e15
      have rl11 : RL (hp w1) encByte ([(UInt8.ofNat (Int.toNat x4.second))] : List UInt8) [(.int .u8 x4.second)] := RL.byte1 e15
      refine ws rfl (os_buildSlice (cs := [(.int .u8 x4.second)]) (E := 5) (sz := 1) rfl rfl (fun _ => by kernel_rfl) rfl (by decide) (fun b10 => ?_))
      obtain ⟨l7, e16, hm⟩ := bind_some hm
      refine ws rfl (os_app (i := 5) (j := 0) (En := encByte) (xs := (xs3 ++ [(.int .u8 x4.first)])) (ys := [(.int .u8 x4.second)]) underlying75 (by kernel_rfl : (prog.info? 5).map (fun i => (i.zero, i.size, i.bytes)) = some (some (.int .u8 0), (encByte).size, 1)) rfl (by decide) rfl rfl rfl rfl rfl rfl rl10 rl11 e16 (fun ao12 cap12 rl12 => ?_))
      refine V rfl (ov_nilCheckB rfl rfl) (V rfl (ov_fieldAddr underlying123 rfl rfl rfl sizeOf75 rfl rfl) ?_)
      refine ws0 rfl (os_store (i := 6) (vs := [(.slice ao12 ((l5 ++ ([(UInt8.ofNat (Int.toNat x4.first))] : List UInt8)) ++ ([(UInt8.ofNat (Int.toNat x4.second))] : List UInt8)).length cap12)]) (cs' := [(pB b4 0), (.slice ao12 ((l5 ++ ([(UInt8.ofNat (Int.toNat x4.first))] : List UInt8)) ++ ([(UInt8.ofNat (Int.toNat x4.second))] : List UInt8)).length cap12)]) sizeOf75 rfl rfl rfl rfl rfl rfl rfl rfl rfl ?_)
      refine WL.nil (tn (WP.seq (WP.region (Va rfl (WL.nil (tn (WP.ret ?_)))))))
      refine retQ_ret (v := .nilIface) results52 (Res.tmp rfl Res.nil) rfl (fun w' s => ⟨_, ?_, s⟩)
      refine WL.nil ?_
      refine retQ_end (v := (.tuple #[])) results53 Res.nil rfl (fun w' s => ⟨_, ?_, s⟩)
      refine WL.nil ?_
      refine retQ_end (v := (.tuple #[])) results50 Res.nil rfl (fun w' s => ⟨_, ?_, s⟩)
      refine WL.nil (bn (tn (WP.region (V rfl (ov_add rfl rfl rfl) (Vm rfl (WL.nil (tn ?_)))))))
      exact ⟨(IntKind.wrap .i64 (i3 + 1)), ((l5 ++ ([(UInt8.ofNat (Int.toNat x4.first))] : List UInt8)) ++ ([(UInt8.ofNat (Int.toNat x4.second))] : List UInt8)), ao12, cap12, ((xs3 ++ [(.int .u8 x4.first)]) ++ [(.int .u8 x4.second)]), rl12, (Sub.all rfl), fun w' s => (s.sl [5, 6]), hm⟩
     replace hm := ite_f hc13 hm
     refine WP.exit (then_exit (then_exit (block_here (tn ?_))))
     exact ⟨l3, ao8, cap8, xs2, rl5, (Sub.all rfl), fun w' s => s, hm⟩
    rintro g' S' ⟨l8, ao13, cap13, xs4, rl13, hsub6, hS6, hm⟩
    refine WP.sub hsub6 (WP.weaken hS6 ?_)
    replace hm := (congrFun hk4 l8).symm.trans hm
    refine WP.region (Vm rfl (Vm rfl ?_))
    have h14 := sv1
    have h20 := sv2
    have h15 := sv3
    have h1 := sv4
    have rl2 := sv5
    have h2 := sv6
    have hG := sv7
    refine ws rfl (os_bstring_in s1 (i := 1) (j := 0) rfl rfl rfl rfl (.inr rfl) rl13 ?_)
    have rl14 : RL H1 encStr ([l8] : List (List UInt8)) [(mkS l8)] := RL.cons (cs := [(mkS l8)]) (xs := []) rfl (RL.nil _ _)
    refine ws rfl (os_buildSlice (cs := [(mkS l8)]) (E := 9) (sz := 1) rfl rfl (fun _ => by kernel_rfl) rfl (by decide) (fun b11 => ?_))
    obtain ⟨l9, e17, hm⟩ := bind_some hm
    refine ws rfl (os_app (i := 1) (j := 0) (En := encStr) (xs := xs1) (ys := [(mkS l8)]) underlying27 (by kernel_rfl : (prog.info? 9).map (fun i => (i.zero, i.size, i.bytes)) = some (some (mkS []), (encStr).size, 16)) rfl (by decide) rfl rfl rfl rfl rfl rfl rl2 rl14 e17 (fun ao14 cap14 rl15 => ?_))
    refine Va rfl (WL.nil (bn (tn ?_)))
    exact ⟨(l1 ++ ([l8] : List (List UInt8))), ao14, cap14, (xs1 ++ [(mkS l8)]), rl15, (Sub.all rfl), fun w' s => (s.sl [1, 2, 3]), hm⟩
   rintro g' S' ⟨l10, ao15, cap15, xs5, rl16, hsub7, hS7, hm⟩
   refine WP.sub hsub7 (WP.weaken hS7 ?_)
   replace hm := (congrFun hk3 l10).symm.trans hm
   refine WP.region (V rfl (ov_add rfl rfl rfl) (Vm rfl (WL.nil (tn ?_))))
   exact ⟨(IntKind.wrap .i64 (i2 + 1)), l10, ao15, cap15, xs5, rl16, (Sub.all rfl), fun w' s => s, hm⟩
  replace hm := ite_f hc11 hm
  refine WP.exit (then_exit (then_exit (block_here (tn ?_))))
  exact ⟨H1, l1, ao5, cap5, xs1, hle1, rl2, (Sub.all rfl), fun w' s => s, hm⟩
 rintro g' S' ⟨H2, l11, ao16, cap16, xs6, hle2, rl17, hsub8, hS8, hm⟩
 refine WP.sub hsub8 (WP.weaken hS8 ?_)
 replace hm := (congrFun hk2 l11).symm.trans hm
 refine WP.seq (WP.region (Vm rfl (Va rfl (WL.nil (tn (WP.ret ?_))))))
 refine retQ_ret (v := (.slice ao16 l11.length cap16)) results49 (Res.tmp rfl Res.nil) rfl (fun w' s => ⟨_, ?_, s⟩)
 refine Va rfl (Va rfl (WL.nil (tn (WP.ret ?_))))
 obtain rfl := Option.some.inj hm
 refine retQ_ret results20 (Res.tmp rfl (Res.tmp rfl Res.nil)) rfl (fun w' s => ⟨s.below, ?_⟩)
 obtain ⟨h28, hc15⟩ := s.ret_row (i := 0) rfl rl17
 exact ⟨ao16, cap16, rfl, h28, hc15⟩
end Go.Proofs.YtbckcjjffbgidaaGreatDoor.W
