/- The walks. Written by our own program gen.py; Lean checks it. -/
import Derived.Test.YtbhcojijafbdiaaGreatDoorPlain
import Derived.Test.YtbhcojijafbdiaaGreatDoorEqs
import Derived.Test.YtbhcojijafbdiaaGreatDoorProg
import Derived.Test.YtbhcojijafbdiaaGreatDoorExt
import Derived.Test.YtbhcojijafbdiaaGreatDoorClone
import Derived.Test.YtbhcojijafbdiaaGreatDoorCloneS
import Derived.Test.YtbhcojijafbdiaaGreatDoorWalk0
import Derived.Test.YtbhcojijafbdiaaGreatDoorWalk1
set_option linter.unusedVariables false
set_option maxRecDepth 100000
set_option maxHeartbeats 4000000
namespace Go.Proofs.YtbhcojijafbdiaaGreatDoor.W
open Go Go.RowKit
theorem ref14_Few_con (p_s : Sequence) (ao1 : Option Addr) (cap1 : Nat) (w : World) (H : Heap) (hH : Le H (hp w)) (h1 : SL H encStep ao1 p_s.steps) (hc1 : p_s.steps.length ≤ cap1) (hG : Glob H) (r : Bool) (hm : ref14_Few p_s = some r) :
  Con Tryz.prog 11 [(.agg #[(.int .i64 p_s.actuators), (.slice ao1 p_s.steps.length cap1)])] w H (fun v _ => v = (.bool r)) := by
 unfold ref14_Few at hm
 refine con_of hH Tryz.func11 rfl 23 Tryz.ntmps11 rfl ?_
 refine WP.seq (WP.region ?_)
 refine WL.step (Runs.free rfl) rfl rfl (os_box (cs := [(.int .i64 p_s.actuators), (.slice ao1 p_s.steps.length cap1)]) rfl rfl rfl (fun b1 => ?_))
 refine wq rfl rfl rfl (ov_assign rfl rfl) ?_
 refine WL.nil (then_normal (WP.seq (WP.seq (WP.region ?_))))
 refine wq rfl rfl rfl (ov_fieldAddr Tryz.underlying24 rfl rfl rfl Tryz.sizeOf22 rfl rfl) ?_
 refine wq rfl rfl rfl (ov_load_box (i := 0) Tryz.isAgg22 rfl rfl rfl rfl) ?_
 refine wq rfl rfl rfl (ov_len_slice Tryz.underlying22 rfl rfl) ?_
 refine wq rfl rfl rfl (ov_gtr rfl rfl rfl) ?_
 refine WL.nil (then_normal ?_)
 refine WP.cond rfl (fun hc2 => ?_) (fun hc2 => ?_)
 ·
  replace hm := ite_t hc2 hm
  refine WP.seq (WP.region ?_)
  refine wq rfl rfl rfl (ov_assign rfl rfl) ?_
  refine WL.nil (then_normal (WP.ret (then_ret ?_)))
  obtain rfl := Option.some.inj hm
  refine retQ_ret Tryz.results11 (Res.tmp rfl Res.nil) rfl (fun w' s => ⟨s.below, ?_⟩)
  exact rfl
 ·
  replace hm := ite_f hc2 hm
  refine WP.skip (then_normal ?_)
  obtain ⟨k1, hk1, hm⟩ := joinK_some hm
  refine WP.seq_join (fun g' S' => Sub [(1000000007, (.bool false))] g' ∧ (∀ w', S' w' → St w H [] H w') ∧ k1 = some r) ?_ ?_
  ·
   skip
   refine WP.seq (WP.region ?_)
   refine wq rfl rfl rfl (ov_assign rfl rfl) ?_
   refine WL.nil (then_normal (WP.block ?_))
   refine WP.loop (fun m1 g' S' => ∃ (i1 : Int), Sub [(1, (pB b1 0)), (3, (.int .i64 i1)), (1000000007, (.bool false))] g' ∧ (∀ w', S' w' → St w H [.blk b1 24 [(.int .i64 p_s.actuators), (.slice ao1 p_s.steps.length cap1)]] H w') ∧ ref14_Few_loop1 p_s k1 m1 i1 = some r) ((Int.toNat ((p_s.steps.length : Int) - 0) + 1)) ⟨0, (Sub.cons rfl (Sub.cons rfl (Sub.cons rfl (Sub.nil _)))), fun w' s => s, hm⟩ ?_ ?_
   ·
    rintro g' S' ⟨_, _, _, hm⟩
    exact none_some hm
   ·
    rintro m1 g' S' ⟨i1, hsub1, hS1, hm⟩
    refine WP.sub hsub1 (WP.weaken hS1 ?_)
    rw [ref14_Few_loop1] at hm
    refine WP.seq (WP.seq (WP.region ?_))
    refine wq rfl rfl rfl (ov_move rfl rfl) ?_
    refine wq rfl rfl rfl (ov_fieldAddr Tryz.underlying24 rfl rfl rfl Tryz.sizeOf22 rfl rfl) ?_
    refine wq rfl rfl rfl (ov_load_box (i := 0) Tryz.isAgg22 rfl rfl rfl rfl) ?_
    refine wq rfl rfl rfl (ov_len_slice Tryz.underlying22 rfl rfl) ?_
    refine wq rfl rfl rfl (ov_lss rfl rfl rfl) ?_
    refine WL.nil (then_normal ?_)
    refine WP.cond rfl (fun hc3 => ?_) (fun hc3 => ?_)
    ·
     replace hm := ite_t hc3 hm
     refine WP.skip (then_normal (WP.seq (WP.block (WP.seq (WP.region ?_)))))
     refine wq rfl rfl rfl (ov_fieldAddr Tryz.underlying24 rfl rfl rfl Tryz.sizeOf22 rfl rfl) ?_
     refine wq rfl rfl rfl (ov_load_box (i := 0) Tryz.isAgg22 rfl rfl rfl rfl) ?_
     refine wq rfl rfl rfl (ov_move rfl rfl) ?_
     obtain ⟨x1, e1, hm⟩ := bind_some hm
     obtain ⟨h3, h4, h5, cs1, h6, h7⟩ := h1.get e1 (by decide)
     obtain ⟨ao2, cap2, rfl, h2, hc4⟩ := h6
     refine wq rfl rfl rfl (ov_indexAddr Tryz.underlying22 Tryz.sizeOf37 rfl rfl rfl h3 h4 h5) ?_
     refine wq rfl rfl rfl (ov_fieldAddrE Tryz.underlying37 rfl rfl rfl Tryz.sizeOf25 rfl rfl) ?_
     refine wq rfl rfl rfl (ov_load_elem (v := (.slice ao2 x1.strokes.length cap2)) Tryz.isAgg25 rfl rfl (h7.one (off := 0) rfl)) ?_
     refine wq rfl rfl rfl (ov_len_slice Tryz.underlying25 rfl rfl) ?_
     refine wq rfl rfl rfl (ov_gtr rfl rfl rfl) ?_
     refine WL.nil (then_normal ?_)
     refine WP.cond rfl (fun hc5 => ?_) (fun hc5 => ?_)
     ·
      replace hm := ite_t hc5 hm
      refine WP.seq (WP.region ?_)
      refine wq rfl rfl rfl (ov_assign rfl rfl) ?_
      refine WL.nil (then_normal (WP.ret (block_ret (then_ret (then_ret (block_ret (then_ret ?_)))))))
      obtain rfl := Option.some.inj hm
      refine retQ_ret Tryz.results11 (Res.tmp rfl Res.nil) rfl (fun w' s => ⟨s.below, ?_⟩)
      exact rfl
     ·
      replace hm := ite_f hc5 hm
      refine WP.skip (block_normal (then_normal (WP.region ?_)))
      refine wq rfl rfl rfl (ov_move rfl rfl) ?_
      refine wq rfl rfl rfl (ov_add rfl rfl rfl) ?_
      refine wq rfl rfl rfl (ov_assign rfl rfl) ?_
      refine WL.nil (then_normal ?_)
      exact ⟨(IntKind.wrap .i64 (i1 + 1)), (Sub.cons rfl (Sub.cons rfl (Sub.cons rfl (Sub.nil _)))), fun w' s => s, hm⟩
    ·
     replace hm := ite_f hc3 hm
     refine WP.exit (then_exit (then_exit (block_here (then_normal ?_))))
     exact ⟨(Sub.cons rfl (Sub.nil _)), fun w' s => (s.select [] (by decide) rfl), hm⟩
  ·
   rintro g' S' ⟨hsub2, hS2, hm⟩
   refine WP.sub hsub2 (WP.weaken hS2 ?_)
   replace hm := hk1.symm.trans hm
   refine WP.seq (WP.region ?_)
   refine wq rfl rfl rfl (ov_assign rfl rfl) ?_
   refine WL.nil (then_normal (WP.ret ?_))
   obtain rfl := Option.some.inj hm
   refine retQ_ret Tryz.results11 (Res.tmp rfl Res.nil) rfl (fun w' s => ⟨s.below, ?_⟩)
   exact rfl

theorem slices_Index_boolbool_con (p_s : (List Bool)) (p_v : Bool) (ao1 : Option Addr) (cap1 : Nat) (w : World) (H : Heap) (hH : Le H (hp w)) (h1 : SL H encBool ao1 p_s) (hc1 : p_s.length ≤ cap1) (hG : Glob H) (r : Int) (hm : slices_Index_boolbool p_s p_v = some r) :
  Con Tryz.prog 72 [(.slice ao1 p_s.length cap1), (.bool p_v)] w H (fun v _ => v = (.int .i64 r)) := by
 unfold slices_Index_boolbool at hm
 refine con_of hH Tryz.func72 rfl 19 Tryz.ntmps72 rfl ?_
 refine WP.seq (WP.region ?_)
 refine wq rfl rfl rfl (ov_assign rfl rfl) ?_
 refine WL.nil (then_normal ?_)
 obtain ⟨k1, hk1, hm⟩ := joinK_some hm
 refine WP.seq_join (fun g' S' => Sub [(1000000007, (.bool false))] g' ∧ (∀ w', S' w' → St w H [] H w') ∧ k1 = some r) ?_ ?_
 ·
  skip
  refine WP.seq (WP.region ?_)
  refine wq rfl rfl rfl (ov_move rfl rfl) ?_
  refine wq rfl rfl rfl (ov_len_slice Tryz.underlying47 rfl rfl) ?_
  refine wq rfl rfl rfl (ov_move rfl rfl) ?_
  refine WL.nil (then_normal (WP.block ?_))
  refine WP.loop (fun m1 g' S' => ∃ (i1 : Int), Sub [(0, (.slice ao1 p_s.length cap1)), (1, (.bool p_v)), (7, (.int .i64 (p_s.length : Int))), (8, (.int .i64 i1)), (1000000007, (.bool false))] g' ∧ (∀ w', S' w' → St w H [] H w') ∧ slices_Index_boolbool_loop1 p_s p_v k1 m1 i1 = some r) ((Int.toNat ((p_s.length : Int) - 0) + 1)) ⟨0, (Sub.cons rfl (Sub.cons rfl (Sub.cons rfl (Sub.cons rfl (Sub.cons rfl (Sub.nil _)))))), fun w' s => s, hm⟩ ?_ ?_
  ·
   rintro g' S' ⟨_, _, _, hm⟩
   exact none_some hm
  ·
   rintro m1 g' S' ⟨i1, hsub1, hS1, hm⟩
   refine WP.sub hsub1 (WP.weaken hS1 ?_)
   rw [slices_Index_boolbool_loop1] at hm
   refine WP.seq (WP.region ?_)
   refine wq rfl rfl rfl (ov_lss rfl rfl rfl) ?_
   refine WL.nil (then_normal (WP.seq ?_))
   refine WP.cond rfl (fun hc2 => ?_) (fun hc2 => ?_)
   ·
    replace hm := ite_t hc2 hm
    refine WP.skip (then_normal (WP.seq (WP.block (WP.seq (WP.region ?_)))))
    refine wq rfl rfl rfl (ov_move rfl rfl) ?_
    refine wq rfl rfl rfl (ov_assign rfl rfl) ?_
    refine WL.nil (then_normal (WP.seq (WP.region ?_)))
    refine wq rfl rfl rfl (ov_move rfl rfl) ?_
    refine wq rfl rfl rfl (ov_move rfl rfl) ?_
    refine wq rfl rfl rfl (ov_move rfl rfl) ?_
    obtain ⟨x1, e1, hm⟩ := bind_some hm
    obtain ⟨h2, h3, h4, cs1, h5, h6⟩ := h1.get e1 (by decide)
    obtain rfl : cs1 = [(.bool x1)] := h5
    refine wq rfl rfl rfl (ov_indexAddr Tryz.underlying47 Tryz.sizeOf4 rfl rfl rfl h2 h3 h4) ?_
    refine wq rfl rfl rfl (ov_load_elem (v := (.bool x1)) Tryz.isAgg4 rfl rfl h6) ?_
    refine wq rfl rfl rfl (ov_beql Tryz.underlying4 rfl rfl rfl) ?_
    refine WL.nil (then_normal ?_)
    refine WP.cond rfl (fun hc3 => ?_) (fun hc3 => ?_)
    ·
     replace hm := ite_t hc3 hm
     refine WP.seq (WP.region ?_)
     refine wq rfl rfl rfl (ov_move rfl rfl) ?_
     refine wq rfl rfl rfl (ov_assign rfl rfl) ?_
     refine WL.nil (then_normal (WP.ret (block_ret (then_ret (then_ret (block_ret (then_ret ?_)))))))
     obtain rfl := Option.some.inj hm
     refine retQ_ret Tryz.results72 (Res.tmp rfl Res.nil) rfl (fun w' s => ⟨s.below, ?_⟩)
     exact rfl
    ·
     replace hm := ite_f hc3 hm
     refine WP.skip (block_normal (then_normal (WP.region ?_)))
     refine wq rfl rfl rfl (ov_add rfl rfl rfl) ?_
     refine wq rfl rfl rfl (ov_move rfl rfl) ?_
     refine WL.nil (then_normal ?_)
     exact ⟨(IntKind.wrap .i64 (i1 + 1)), (Sub.cons rfl (Sub.cons rfl (Sub.cons rfl (Sub.cons rfl (Sub.cons rfl (Sub.nil _)))))), fun w' s => s, hm⟩
   ·
    replace hm := ite_f hc2 hm
    refine WP.exit (then_exit (then_exit (block_here (then_normal ?_))))
    exact ⟨(Sub.cons rfl (Sub.nil _)), fun w' s => s, hm⟩
 ·
  rintro g' S' ⟨hsub2, hS2, hm⟩
  refine WP.sub hsub2 (WP.weaken hS2 ?_)
  replace hm := hk1.symm.trans hm
  refine WP.seq (WP.region ?_)
  refine wq rfl rfl rfl (ov_assign rfl rfl) ?_
  refine WL.nil (then_normal (WP.ret ?_))
  obtain rfl := Option.some.inj hm
  refine retQ_ret Tryz.results72 (Res.tmp rfl Res.nil) rfl (fun w' s => ⟨s.below, ?_⟩)
  exact rfl

theorem slices_Contains_boolbool_con (p_s : (List Bool)) (p_v : Bool) (ao1 : Option Addr) (cap1 : Nat) (w : World) (H : Heap) (hH : Le H (hp w)) (h1 : SL H encBool ao1 p_s) (hc1 : p_s.length ≤ cap1) (hG : Glob H) (r : Bool) (hm : slices_Contains_boolbool p_s p_v = some r) :
  Con Tryz.prog 43 [(.slice ao1 p_s.length cap1), (.bool p_v)] w H (fun v _ => v = (.bool r)) := by
 unfold slices_Contains_boolbool at hm
 refine con_of hH Tryz.func43 rfl 9 Tryz.ntmps43 rfl ?_
 refine WP.seq (WP.region ?_)
 refine wq rfl rfl rfl (ov_assign rfl rfl) ?_
 refine WL.nil (then_normal (WP.seq (WP.region ?_)))
 refine wq rfl rfl rfl (ov_move rfl rfl) ?_
 refine wq rfl rfl rfl (ov_move rfl rfl) ?_
 obtain ⟨r1, e1, hm⟩ := bind_some hm
 refine WL.quiet (Runs.free rfl) rfl rfl (oq_con (r := (.int .i64 r1)) Tryz.call72 rfl rfl (fun w' s => ⟨_, (slices_Index_boolbool_con p_s p_v ao1 cap1  w' H s.hold h1 hc1 hG r1 e1)⟩)) ?_
 refine wq rfl rfl rfl (ov_geq rfl rfl rfl) ?_
 refine wq rfl rfl rfl (ov_assign rfl rfl) ?_
 refine WL.nil (then_normal (WP.ret ?_))
 obtain rfl := Option.some.inj hm
 refine retQ_ret Tryz.results43 (Res.tmp rfl Res.nil) rfl (fun w' s => ⟨s.below, ?_⟩)
 exact rfl

theorem sequence_fits_con (p_s : Sequence) (p_step : Step) (p_x : Ends6) (ao1 : Option Addr) (cap1 : Nat) (ao2 : Option Addr) (cap2 : Nat) (w : World) (H : Heap) (hH : Le H (hp w)) (h1 : SL H encStep ao1 p_s.steps) (hc1 : p_s.steps.length ≤ cap1) (h2 : SL H encStroke ao2 p_step.strokes) (hc2 : p_step.strokes.length ≤ cap2) (hG : Glob H) (r : Int) (hm : sequence_fits p_s p_step p_x = some r) :
  Con Tryz.prog 59 [(.agg #[(.int .i64 p_s.actuators), (.slice ao1 p_s.steps.length cap1)]), (.agg #[(.slice ao2 p_step.strokes.length cap2), (.int .i64 p_step.wait)]), (.agg #[(.bool p_x.a0), (.bool p_x.a1), (.bool p_x.a2), (.bool p_x.a3), (.bool p_x.a4), (.bool p_x.a5)])] w H (fun v _ => v = (.int .i64 r)) := by
 unfold sequence_fits at hm
 refine con_of hH Tryz.func59 rfl 45 Tryz.ntmps59 rfl ?_
 refine WP.seq (WP.region ?_)
 refine WL.step (Runs.free rfl) rfl rfl (os_box (cs := [(.int .i64 p_s.actuators), (.slice ao1 p_s.steps.length cap1)]) rfl rfl rfl (fun b1 => ?_))
 refine WL.step (Runs.free rfl) rfl rfl (os_box (cs := [(.slice ao2 p_step.strokes.length cap2), (.int .i64 p_step.wait)]) rfl rfl rfl (fun b2 => ?_))
 refine WL.step (Runs.free rfl) rfl rfl (os_box (cs := [(.bool p_x.a0), (.bool p_x.a1), (.bool p_x.a2), (.bool p_x.a3), (.bool p_x.a4), (.bool p_x.a5)]) rfl rfl rfl (fun b3 => ?_))
 refine wq rfl rfl rfl (ov_assign rfl rfl) ?_
 refine WL.nil (then_normal (WP.seq (WP.seq (WP.region ?_))))
 refine wq rfl rfl rfl (ov_load_whole (i := 1) Tryz.isAgg37 Tryz.sizeOf37 rfl rfl rfl rfl) ?_
 obtain ⟨r1, e1, hm⟩ := bind_some hm
 refine WL.quiet (Runs.free rfl) rfl rfl (oq_con (r := (.int .i64 r1)) Tryz.call73 rfl rfl (fun w' s => ⟨_, (stroke_CheckStep_con p_step ao2 cap2  w' H s.hold h2 hc2 hG r1 e1)⟩)) ?_
 refine wq rfl rfl rfl (ov_assign rfl rfl) ?_
 refine WL.nil (then_normal (WP.seq (WP.region ?_)))
 refine wq rfl rfl rfl (ov_move rfl rfl) ?_
 refine wq rfl rfl rfl (ov_neq rfl rfl rfl) ?_
 refine WL.nil (then_normal ?_)
 refine WP.cond rfl (fun hc3 => ?_) (fun hc3 => ?_)
 ·
  replace hm := ite_t hc3 hm
  refine WP.seq (WP.region ?_)
  refine wq rfl rfl rfl (ov_move rfl rfl) ?_
  refine wq rfl rfl rfl (ov_assign rfl rfl) ?_
  refine WL.nil (then_normal (WP.ret (then_ret ?_)))
  obtain rfl := Option.some.inj hm
  refine retQ_ret Tryz.results59 (Res.tmp rfl Res.nil) rfl (fun w' s => ⟨s.below, ?_⟩)
  exact rfl
 ·
  replace hm := ite_f hc3 hm
  refine WP.skip (then_normal ?_)
  obtain ⟨k1, hk1, hm⟩ := joinK_some hm
  refine WP.seq_join (fun g' S' => Sub [(4, (pB b2 0)), (5, (pB b3 0)), (1000000007, (.bool false))] g' ∧ (∀ w', S' w' → St w H [.blk b3 93 [(.bool p_x.a0), (.bool p_x.a1), (.bool p_x.a2), (.bool p_x.a3), (.bool p_x.a4), (.bool p_x.a5)], .blk b2 37 [(.slice ao2 p_step.strokes.length cap2), (.int .i64 p_step.wait)]] H w') ∧ k1 = some r) ?_ ?_
  ·
   skip
   refine WP.seq (WP.region ?_)
   refine wq rfl rfl rfl (ov_fieldAddr Tryz.underlying37 rfl rfl rfl Tryz.sizeOf25 rfl rfl) ?_
   refine wq rfl rfl rfl (ov_load_box (i := 1) Tryz.isAgg25 rfl rfl rfl rfl) ?_
   refine wq rfl rfl rfl (ov_len_slice Tryz.underlying25 rfl rfl) ?_
   refine wq rfl rfl rfl (ov_move rfl rfl) ?_
   refine WL.nil (then_normal (WP.block ?_))
   refine WP.loop (fun m1 g' S' => ∃ (i1 : Int), Sub [(3, (pB b1 0)), (4, (pB b2 0)), (5, (pB b3 0)), (18, (.slice ao2 p_step.strokes.length cap2)), (19, (.int .i64 (p_step.strokes.length : Int))), (20, (.int .i64 i1)), (1000000007, (.bool false))] g' ∧ (∀ w', S' w' → St w H [.blk b3 93 [(.bool p_x.a0), (.bool p_x.a1), (.bool p_x.a2), (.bool p_x.a3), (.bool p_x.a4), (.bool p_x.a5)], .blk b2 37 [(.slice ao2 p_step.strokes.length cap2), (.int .i64 p_step.wait)], .blk b1 24 [(.int .i64 p_s.actuators), (.slice ao1 p_s.steps.length cap1)]] H w') ∧ sequence_fits_loop1 p_s p_step k1 m1 i1 = some r) ((Int.toNat ((p_step.strokes.length : Int) - 0) + 1)) ⟨0, (Sub.cons rfl (Sub.cons rfl (Sub.cons rfl (Sub.cons rfl (Sub.cons rfl (Sub.cons rfl (Sub.cons rfl (Sub.nil _)))))))), fun w' s => s, hm⟩ ?_ ?_
   ·
    rintro g' S' ⟨_, _, _, hm⟩
    exact none_some hm
   ·
    rintro m1 g' S' ⟨i1, hsub1, hS1, hm⟩
    refine WP.sub hsub1 (WP.weaken hS1 ?_)
    rw [sequence_fits_loop1] at hm
    refine WP.seq (WP.region ?_)
    refine wq rfl rfl rfl (ov_lss rfl rfl rfl) ?_
    refine WL.nil (then_normal (WP.seq ?_))
    refine WP.cond rfl (fun hc4 => ?_) (fun hc4 => ?_)
    ·
     replace hm := ite_t hc4 hm
     refine WP.skip (then_normal (WP.seq (WP.block (WP.seq (WP.region ?_)))))
     obtain ⟨x1, e2, hm⟩ := bind_some hm
     obtain ⟨h3, h4, h5, cs1, h6, h7⟩ := h2.get e2 (by decide)
     obtain rfl : cs1 = [(.int .i64 x1.actuator), (.bool x1.out)] := h6
     refine wq rfl rfl rfl (ov_indexAddr Tryz.underlying25 Tryz.sizeOf40 rfl rfl rfl h3 h4 h5) ?_
     refine wq rfl rfl rfl (ov_load_elems (vs := [(.int .i64 x1.actuator), (.bool x1.out)]) Tryz.isAgg40 Tryz.sizeOf40 rfl rfl rfl h7 h5) ?_
     refine WL.step (Runs.free rfl) rfl rfl (os_alloc (cs := [(.int .i64 0), (.bool false)]) Tryz.zeroValue40 rfl rfl (fun b4 => ?_))
     refine WL.step0 (Runs.free rfl) rfl (os_store (i := 0) (vs := [(.int .i64 x1.actuator), (.bool x1.out)]) (cs' := [(.int .i64 x1.actuator), (.bool x1.out)]) Tryz.sizeOf40 rfl rfl rfl rfl rfl rfl rfl rfl rfl ?_)
     refine WL.nil (then_normal (WP.seq (WP.region ?_)))
     refine wq rfl rfl rfl (ov_fieldAddr Tryz.underlying40 rfl rfl rfl Tryz.sizeOf3 rfl rfl) ?_
     refine wq rfl rfl rfl (ov_load_box (i := 0) Tryz.isAgg3 rfl rfl rfl rfl) ?_
     refine wq rfl rfl rfl (ov_fieldAddr Tryz.underlying24 rfl rfl rfl Tryz.sizeOf3 rfl rfl) ?_
     refine wq rfl rfl rfl (ov_load_box (i := 3) Tryz.isAgg3 rfl rfl rfl rfl) ?_
     refine wq rfl rfl rfl (ov_geq rfl rfl rfl) ?_
     refine WL.nil (then_normal ?_)
     refine WP.cond rfl (fun hc5 => ?_) (fun hc5 => ?_)
     ·
      replace hm := ite_t hc5 hm
      refine WP.seq (WP.region ?_)
      refine wq rfl rfl rfl (ov_assign rfl rfl) ?_
      refine WL.nil (then_normal (WP.ret (block_ret (then_ret (then_ret (block_ret (then_ret ?_)))))))
      obtain rfl := Option.some.inj hm
      refine retQ_ret Tryz.results59 (Res.tmp rfl Res.nil) rfl (fun w' s => ⟨s.below, ?_⟩)
      exact rfl
     ·
      replace hm := ite_f hc5 hm
      refine WP.skip (block_normal (then_normal (WP.region ?_)))
      refine wq rfl rfl rfl (ov_add rfl rfl rfl) ?_
      refine wq rfl rfl rfl (ov_move rfl rfl) ?_
      refine WL.nil (then_normal ?_)
      exact ⟨(IntKind.wrap .i64 (i1 + 1)), (Sub.cons rfl (Sub.cons rfl (Sub.cons rfl (Sub.cons rfl (Sub.cons rfl (Sub.cons rfl (Sub.cons rfl (Sub.nil _)))))))), fun w' s => (s.select [1, 2, 3] (by decide) rfl), hm⟩
    ·
     replace hm := ite_f hc4 hm
     refine WP.exit (then_exit (then_exit (block_here (then_normal ?_))))
     exact ⟨(Sub.cons rfl (Sub.cons rfl (Sub.cons rfl (Sub.nil _)))), fun w' s => (s.select [0, 1] (by decide) rfl), hm⟩
  ·
   rintro g' S' ⟨hsub2, hS2, hm⟩
   refine WP.sub hsub2 (WP.weaken hS2 ?_)
   replace hm := hk1.symm.trans hm
   obtain ⟨k2, hk2, hm⟩ := joinK_some hm
   refine WP.seq_join (fun g' S' => Sub [(1000000007, (.bool false))] g' ∧ (∀ w', S' w' → St w H [] H w') ∧ k2 = some r) ?_ ?_
   ·
    skip
    refine WP.seq (WP.region ?_)
    refine wq rfl rfl rfl (ov_fieldAddr Tryz.underlying37 rfl rfl rfl Tryz.sizeOf25 rfl rfl) ?_
    refine wq rfl rfl rfl (ov_load_box (i := 1) Tryz.isAgg25 rfl rfl rfl rfl) ?_
    refine wq rfl rfl rfl (ov_len_slice Tryz.underlying25 rfl rfl) ?_
    refine wq rfl rfl rfl (ov_move rfl rfl) ?_
    refine WL.nil (then_normal (WP.block ?_))
    refine WP.loop (fun m2 g' S' => ∃ (i2 : Int), Sub [(5, (pB b3 0)), (31, (.slice ao2 p_step.strokes.length cap2)), (32, (.int .i64 (p_step.strokes.length : Int))), (33, (.int .i64 i2)), (1000000007, (.bool false))] g' ∧ (∀ w', S' w' → St w H [.blk b3 93 [(.bool p_x.a0), (.bool p_x.a1), (.bool p_x.a2), (.bool p_x.a3), (.bool p_x.a4), (.bool p_x.a5)]] H w') ∧ sequence_fits_loop2 p_step p_x k2 m2 i2 = some r) ((Int.toNat ((p_step.strokes.length : Int) - 0) + 1)) ⟨0, (Sub.cons rfl (Sub.cons rfl (Sub.cons rfl (Sub.cons rfl (Sub.cons rfl (Sub.nil _)))))), fun w' s => (s.select [0] (by decide) rfl), hm⟩ ?_ ?_
    ·
     rintro g' S' ⟨_, _, _, hm⟩
     exact none_some hm
    ·
     rintro m2 g' S' ⟨i2, hsub3, hS3, hm⟩
     refine WP.sub hsub3 (WP.weaken hS3 ?_)
     rw [sequence_fits_loop2] at hm
     refine WP.seq (WP.region ?_)
     refine wq rfl rfl rfl (ov_lss rfl rfl rfl) ?_
     refine WL.nil (then_normal (WP.seq ?_))
     refine WP.cond rfl (fun hc6 => ?_) (fun hc6 => ?_)
     ·
      replace hm := ite_t hc6 hm
      refine WP.skip (then_normal (WP.seq (WP.block (WP.seq (WP.region ?_)))))
      obtain ⟨x2, e3, hm⟩ := bind_some hm
      obtain ⟨h8, h9, h10, cs2, h11, h12⟩ := h2.get e3 (by decide)
      obtain rfl : cs2 = [(.int .i64 x2.actuator), (.bool x2.out)] := h11
      refine wq rfl rfl rfl (ov_indexAddr Tryz.underlying25 Tryz.sizeOf40 rfl rfl rfl h8 h9 h10) ?_
      refine wq rfl rfl rfl (ov_load_elems (vs := [(.int .i64 x2.actuator), (.bool x2.out)]) Tryz.isAgg40 Tryz.sizeOf40 rfl rfl rfl h12 h10) ?_
      refine WL.step (Runs.free rfl) rfl rfl (os_alloc (cs := [(.int .i64 0), (.bool false)]) Tryz.zeroValue40 rfl rfl (fun b5 => ?_))
      refine WL.step0 (Runs.free rfl) rfl (os_store (i := 0) (vs := [(.int .i64 x2.actuator), (.bool x2.out)]) (cs' := [(.int .i64 x2.actuator), (.bool x2.out)]) Tryz.sizeOf40 rfl rfl rfl rfl rfl rfl rfl rfl rfl ?_)
      refine WL.nil (then_normal ?_)
      obtain ⟨k3, hk3, hm⟩ := joinK_some hm
      refine WP.seq_join (fun g' S' => ∃ (c1 : Bool), Sub [(5, (pB b3 0)), (31, (.slice ao2 p_step.strokes.length cap2)), (32, (.int .i64 (p_step.strokes.length : Int))), (33, (.int .i64 i2)), (43, (.bool c1)), (1000000007, (.bool false))] g' ∧ (∀ w', S' w' → St w H [.blk b3 93 [(.bool p_x.a0), (.bool p_x.a1), (.bool p_x.a2), (.bool p_x.a3), (.bool p_x.a4), (.bool p_x.a5)]] H w') ∧ k3 c1 = some r) ?_ ?_
      ·
       skip
       refine WP.region_draws (by kernel_rfl) (by kernel_rfl) (fun _ s => s.drew) ?_
       refine QL.quiet (Runs.free rfl) rfl rfl (OV.quiet (ov_fieldAddr Tryz.underlying40 rfl rfl rfl Tryz.sizeOf3 rfl rfl)) ?_
       refine QL.quiet (Runs.free rfl) rfl rfl (OV.quiet (ov_load_box (i := 0) Tryz.isAgg3 rfl rfl rfl rfl)) ?_
       rcases Bool.eq_false_or_eq_true (x2.actuator == 0) with hc7 | hc7
       ·
        replace hm := ite_t hc7 hm
        refine QL.quiet (Runs.free rfl) rfl rfl (OV.quiet (ov_indexAddr_at (j := 0) Tryz.underlying93 Tryz.sizeOf4 rfl rfl rfl (eq_of_beq hc7) rfl)) ?_
        refine QL.quiet (Runs.free rfl) rfl rfl (OV.quiet (ov_load_box (i := 1) Tryz.isAgg4 rfl rfl rfl rfl)) ?_
        refine QL.quiet (Runs.free rfl) rfl rfl (OV.quiet (ov_fieldAddr Tryz.underlying40 rfl rfl rfl Tryz.sizeOf4 rfl rfl)) ?_
        refine QL.quiet (Runs.free rfl) rfl rfl (OV.quiet (ov_load_box (i := 0) Tryz.isAgg4 rfl rfl rfl rfl)) ?_
        refine QL.quiet (Runs.free rfl) rfl rfl (OV.quiet (ov_beql Tryz.underlying4 rfl rfl rfl)) ?_
        refine QL.nil ?_
        refine then_normal ?_
        exact ⟨(p_x.a0 == x2.out), (Sub.cons rfl (Sub.cons rfl (Sub.cons rfl (Sub.cons rfl (Sub.cons rfl (Sub.cons rfl (Sub.nil _))))))), fun w' s => (s.select [1] (by decide) rfl), hm⟩
       ·
        replace hm := ite_f hc7 hm
        rcases Bool.eq_false_or_eq_true (x2.actuator == 1) with hc8 | hc8
        ·
         replace hm := ite_t hc8 hm
         refine QL.quiet (Runs.free rfl) rfl rfl (OV.quiet (ov_indexAddr_at (j := 1) Tryz.underlying93 Tryz.sizeOf4 rfl rfl rfl (eq_of_beq hc8) rfl)) ?_
         refine QL.quiet (Runs.free rfl) rfl rfl (OV.quiet (ov_load_box (i := 1) Tryz.isAgg4 rfl rfl rfl rfl)) ?_
         refine QL.quiet (Runs.free rfl) rfl rfl (OV.quiet (ov_fieldAddr Tryz.underlying40 rfl rfl rfl Tryz.sizeOf4 rfl rfl)) ?_
         refine QL.quiet (Runs.free rfl) rfl rfl (OV.quiet (ov_load_box (i := 0) Tryz.isAgg4 rfl rfl rfl rfl)) ?_
         refine QL.quiet (Runs.free rfl) rfl rfl (OV.quiet (ov_beql Tryz.underlying4 rfl rfl rfl)) ?_
         refine QL.nil ?_
         refine then_normal ?_
         exact ⟨(p_x.a1 == x2.out), (Sub.cons rfl (Sub.cons rfl (Sub.cons rfl (Sub.cons rfl (Sub.cons rfl (Sub.cons rfl (Sub.nil _))))))), fun w' s => (s.select [1] (by decide) rfl), hm⟩
        ·
         replace hm := ite_f hc8 hm
         rcases Bool.eq_false_or_eq_true (x2.actuator == 2) with hc9 | hc9
         ·
          replace hm := ite_t hc9 hm
          refine QL.quiet (Runs.free rfl) rfl rfl (OV.quiet (ov_indexAddr_at (j := 2) Tryz.underlying93 Tryz.sizeOf4 rfl rfl rfl (eq_of_beq hc9) rfl)) ?_
          refine QL.quiet (Runs.free rfl) rfl rfl (OV.quiet (ov_load_box (i := 1) Tryz.isAgg4 rfl rfl rfl rfl)) ?_
          refine QL.quiet (Runs.free rfl) rfl rfl (OV.quiet (ov_fieldAddr Tryz.underlying40 rfl rfl rfl Tryz.sizeOf4 rfl rfl)) ?_
          refine QL.quiet (Runs.free rfl) rfl rfl (OV.quiet (ov_load_box (i := 0) Tryz.isAgg4 rfl rfl rfl rfl)) ?_
          refine QL.quiet (Runs.free rfl) rfl rfl (OV.quiet (ov_beql Tryz.underlying4 rfl rfl rfl)) ?_
          refine QL.nil ?_
          refine then_normal ?_
          exact ⟨(p_x.a2 == x2.out), (Sub.cons rfl (Sub.cons rfl (Sub.cons rfl (Sub.cons rfl (Sub.cons rfl (Sub.cons rfl (Sub.nil _))))))), fun w' s => (s.select [1] (by decide) rfl), hm⟩
         ·
          replace hm := ite_f hc9 hm
          rcases Bool.eq_false_or_eq_true (x2.actuator == 3) with hc10 | hc10
          ·
           replace hm := ite_t hc10 hm
           refine QL.quiet (Runs.free rfl) rfl rfl (OV.quiet (ov_indexAddr_at (j := 3) Tryz.underlying93 Tryz.sizeOf4 rfl rfl rfl (eq_of_beq hc10) rfl)) ?_
           refine QL.quiet (Runs.free rfl) rfl rfl (OV.quiet (ov_load_box (i := 1) Tryz.isAgg4 rfl rfl rfl rfl)) ?_
           refine QL.quiet (Runs.free rfl) rfl rfl (OV.quiet (ov_fieldAddr Tryz.underlying40 rfl rfl rfl Tryz.sizeOf4 rfl rfl)) ?_
           refine QL.quiet (Runs.free rfl) rfl rfl (OV.quiet (ov_load_box (i := 0) Tryz.isAgg4 rfl rfl rfl rfl)) ?_
           refine QL.quiet (Runs.free rfl) rfl rfl (OV.quiet (ov_beql Tryz.underlying4 rfl rfl rfl)) ?_
           refine QL.nil ?_
           refine then_normal ?_
           exact ⟨(p_x.a3 == x2.out), (Sub.cons rfl (Sub.cons rfl (Sub.cons rfl (Sub.cons rfl (Sub.cons rfl (Sub.cons rfl (Sub.nil _))))))), fun w' s => (s.select [1] (by decide) rfl), hm⟩
          ·
           replace hm := ite_f hc10 hm
           rcases Bool.eq_false_or_eq_true (x2.actuator == 4) with hc11 | hc11
           ·
            replace hm := ite_t hc11 hm
            refine QL.quiet (Runs.free rfl) rfl rfl (OV.quiet (ov_indexAddr_at (j := 4) Tryz.underlying93 Tryz.sizeOf4 rfl rfl rfl (eq_of_beq hc11) rfl)) ?_
            refine QL.quiet (Runs.free rfl) rfl rfl (OV.quiet (ov_load_box (i := 1) Tryz.isAgg4 rfl rfl rfl rfl)) ?_
            refine QL.quiet (Runs.free rfl) rfl rfl (OV.quiet (ov_fieldAddr Tryz.underlying40 rfl rfl rfl Tryz.sizeOf4 rfl rfl)) ?_
            refine QL.quiet (Runs.free rfl) rfl rfl (OV.quiet (ov_load_box (i := 0) Tryz.isAgg4 rfl rfl rfl rfl)) ?_
            refine QL.quiet (Runs.free rfl) rfl rfl (OV.quiet (ov_beql Tryz.underlying4 rfl rfl rfl)) ?_
            refine QL.nil ?_
            refine then_normal ?_
            exact ⟨(p_x.a4 == x2.out), (Sub.cons rfl (Sub.cons rfl (Sub.cons rfl (Sub.cons rfl (Sub.cons rfl (Sub.cons rfl (Sub.nil _))))))), fun w' s => (s.select [1] (by decide) rfl), hm⟩
           ·
            replace hm := ite_f hc11 hm
            rcases Bool.eq_false_or_eq_true (x2.actuator == 5) with hc12 | hc12
            ·
             replace hm := ite_t hc12 hm
             refine QL.quiet (Runs.free rfl) rfl rfl (OV.quiet (ov_indexAddr_at (j := 5) Tryz.underlying93 Tryz.sizeOf4 rfl rfl rfl (eq_of_beq hc12) rfl)) ?_
             refine QL.quiet (Runs.free rfl) rfl rfl (OV.quiet (ov_load_box (i := 1) Tryz.isAgg4 rfl rfl rfl rfl)) ?_
             refine QL.quiet (Runs.free rfl) rfl rfl (OV.quiet (ov_fieldAddr Tryz.underlying40 rfl rfl rfl Tryz.sizeOf4 rfl rfl)) ?_
             refine QL.quiet (Runs.free rfl) rfl rfl (OV.quiet (ov_load_box (i := 0) Tryz.isAgg4 rfl rfl rfl rfl)) ?_
             refine QL.quiet (Runs.free rfl) rfl rfl (OV.quiet (ov_beql Tryz.underlying4 rfl rfl rfl)) ?_
             refine QL.nil ?_
             refine then_normal ?_
             exact ⟨(p_x.a5 == x2.out), (Sub.cons rfl (Sub.cons rfl (Sub.cons rfl (Sub.cons rfl (Sub.cons rfl (Sub.cons rfl (Sub.nil _))))))), fun w' s => (s.select [1] (by decide) rfl), hm⟩
            ·
             replace hm := ite_f hc12 hm
             exact (none_some hm).elim
      ·
       rintro g' S' ⟨c1, hsub4, hS4, hm⟩
       refine WP.sub hsub4 (WP.weaken hS4 ?_)
       replace hm := (congrFun hk3 c1).symm.trans hm
       refine WP.cond rfl (fun hc13 => ?_) (fun hc13 => ?_)
       ·
        replace hm := ite_t hc13 hm
        refine WP.seq (WP.region ?_)
        refine wq rfl rfl rfl (ov_assign rfl rfl) ?_
        refine WL.nil (then_normal (WP.ret (block_ret (then_ret (then_ret (block_ret (then_ret ?_)))))))
        obtain rfl := Option.some.inj hm
        refine retQ_ret Tryz.results59 (Res.tmp rfl Res.nil) rfl (fun w' s => ⟨s.below, ?_⟩)
        exact rfl
       ·
        replace hm := ite_f hc13 hm
        refine WP.skip (block_normal (then_normal (WP.region ?_)))
        refine wq rfl rfl rfl (ov_add rfl rfl rfl) ?_
        refine wq rfl rfl rfl (ov_move rfl rfl) ?_
        refine WL.nil (then_normal ?_)
        exact ⟨(IntKind.wrap .i64 (i2 + 1)), (Sub.cons rfl (Sub.cons rfl (Sub.cons rfl (Sub.cons rfl (Sub.cons rfl (Sub.nil _)))))), fun w' s => s, hm⟩
     ·
      replace hm := ite_f hc6 hm
      refine WP.exit (then_exit (then_exit (block_here (then_normal ?_))))
      exact ⟨(Sub.cons rfl (Sub.nil _)), fun w' s => (s.select [] (by decide) rfl), hm⟩
   ·
    rintro g' S' ⟨hsub5, hS5, hm⟩
    refine WP.sub hsub5 (WP.weaken hS5 ?_)
    replace hm := hk2.symm.trans hm
    refine WP.seq (WP.region ?_)
    refine wq rfl rfl rfl (ov_assign rfl rfl) ?_
    refine WL.nil (then_normal (WP.ret ?_))
    obtain rfl := Option.some.inj hm
    refine retQ_ret Tryz.results59 (Res.tmp rfl Res.nil) rfl (fun w' s => ⟨s.below, ?_⟩)
    exact rfl

theorem sequence_Check_con (p_s : Sequence) (ao1 : Option Addr) (cap1 : Nat) (w : World) (H : Heap) (hH : Le H (hp w)) (h1 : SL H encStep ao1 p_s.steps) (hc1 : p_s.steps.length ≤ cap1) (hG : Glob H) (r : Int) (hm : sequence_Check p_s = some r) :
  Con Tryz.prog 30 [(.agg #[(.int .i64 p_s.actuators), (.slice ao1 p_s.steps.length cap1)])] w H (fun v _ => v = (.int .i64 r)) := by
 unfold sequence_Check at hm
 refine con_of hH Tryz.func30 rfl 65 Tryz.ntmps30 rfl ?_
 refine WP.seq (WP.region ?_)
 refine WL.step (Runs.free rfl) rfl rfl (os_box (cs := [(.int .i64 p_s.actuators), (.slice ao1 p_s.steps.length cap1)]) rfl rfl rfl (fun b1 => ?_))
 refine wq rfl rfl rfl (ov_assign rfl rfl) ?_
 refine WL.nil (then_normal (WP.seq (WP.block (WP.seq (WP.region ?_)))))
 refine wq rfl rfl rfl (ov_fieldAddr Tryz.underlying24 rfl rfl rfl Tryz.sizeOf3 rfl rfl) ?_
 refine wq rfl rfl rfl (ov_load_box (i := 0) Tryz.isAgg3 rfl rfl rfl rfl) ?_
 refine wq rfl rfl rfl (ov_lss rfl rfl rfl) ?_
 refine wq rfl rfl rfl (ov_move rfl rfl) ?_
 refine WL.cut_bool 4 18 (x := ((decide (p_s.actuators < 1)) || (decide (p_s.actuators > 6)))) ?_ ?_
 ·
  rcases Bool.eq_false_or_eq_true (decide (p_s.actuators < 1)) with hc2 | hc2
  ·
   skip
   refine WL.idle (Idle.no rfl rfl rfl hc2) rfl rfl ?_
   refine WL.idle (Idle.no rfl rfl rfl hc2) rfl rfl ?_
   refine WL.idle (Idle.no rfl rfl rfl hc2) rfl rfl ?_
   refine wq rfl rfl rfl (ov_pick_true rfl (guard_eq rfl hc2) rfl) ?_
   exact WL.nil ⟨Sub.cons' rfl (congrArg Value.bool (orT hc2)) (Sub.skip rfl (Sub.skip rfl (Sub.skip rfl (Sub.skip rfl (Sub.refl _))))), fun _ s => s⟩
  ·
   skip
   refine WL.quiet (Runs.yes rfl rfl rfl hc2) rfl rfl (OV.quiet (ov_fieldAddr Tryz.underlying24 rfl rfl rfl Tryz.sizeOf3 rfl rfl)) ?_
   refine WL.quiet (Runs.yes rfl rfl rfl hc2) rfl rfl (OV.quiet (ov_load_box (i := 0) Tryz.isAgg3 rfl rfl rfl rfl)) ?_
   refine WL.quiet (Runs.yes rfl rfl rfl hc2) rfl rfl (OV.quiet (ov_gtr rfl rfl rfl)) ?_
   refine wq rfl rfl rfl (ov_pick_false rfl (guard_eq rfl hc2) rfl) ?_
   exact WL.nil ⟨Sub.cons' rfl (congrArg Value.bool (orF hc2)) (Sub.skip rfl (Sub.skip rfl (Sub.skip rfl (Sub.skip rfl (Sub.refl _))))), fun _ s => s⟩
 refine wq rfl rfl rfl (ov_assign rfl rfl) ?_
 refine WL.nil (then_normal ?_)
 refine WP.cond rfl (fun hc3 => ?_) (fun hc3 => ?_)
 ·
  replace hm := ite_t hc3 hm
  refine WP.seq (WP.region ?_)
  refine wq rfl rfl rfl (ov_assign rfl rfl) ?_
  refine WL.nil (then_normal (WP.ret (block_ret (then_ret ?_))))
  obtain rfl := Option.some.inj hm
  refine retQ_ret Tryz.results30 (Res.tmp rfl Res.nil) rfl (fun w' s => ⟨s.below, ?_⟩)
  exact rfl
 ·
  replace hm := ite_f hc3 hm
  refine WP.seq (WP.region ?_)
  refine wq rfl rfl rfl (ov_fieldAddr Tryz.underlying24 rfl rfl rfl Tryz.sizeOf22 rfl rfl) ?_
  refine wq rfl rfl rfl (ov_load_box (i := 0) Tryz.isAgg22 rfl rfl rfl rfl) ?_
  refine wq rfl rfl rfl (ov_len_slice Tryz.underlying22 rfl rfl) ?_
  refine wq rfl rfl rfl (ov_eql rfl rfl rfl) ?_
  refine wq rfl rfl rfl (ov_assign rfl rfl) ?_
  refine WL.nil (then_normal ?_)
  refine WP.cond rfl (fun hc4 => ?_) (fun hc4 => ?_)
  ·
   replace hm := ite_t hc4 hm
   refine WP.seq (WP.region ?_)
   refine wq rfl rfl rfl (ov_assign rfl rfl) ?_
   refine WL.nil (then_normal (WP.ret (block_ret (then_ret ?_))))
   obtain rfl := Option.some.inj hm
   refine retQ_ret Tryz.results30 (Res.tmp rfl Res.nil) rfl (fun w' s => ⟨s.below, ?_⟩)
   exact rfl
  ·
   replace hm := ite_f hc4 hm
   refine WP.seq (WP.region ?_)
   refine wq rfl rfl rfl (ov_fieldAddr Tryz.underlying24 rfl rfl rfl Tryz.sizeOf22 rfl rfl) ?_
   refine wq rfl rfl rfl (ov_load_box (i := 0) Tryz.isAgg22 rfl rfl rfl rfl) ?_
   refine wq rfl rfl rfl (ov_len_slice Tryz.underlying22 rfl rfl) ?_
   refine wq rfl rfl rfl (ov_gtr rfl rfl rfl) ?_
   refine wq rfl rfl rfl (ov_assign rfl rfl) ?_
   refine WL.nil (then_normal ?_)
   refine WP.cond rfl (fun hc5 => ?_) (fun hc5 => ?_)
   ·
    replace hm := ite_t hc5 hm
    refine WP.seq (WP.region ?_)
    refine wq rfl rfl rfl (ov_assign rfl rfl) ?_
    refine WL.nil (then_normal (WP.ret (block_ret (then_ret ?_))))
    obtain rfl := Option.some.inj hm
    refine retQ_ret Tryz.results30 (Res.tmp rfl Res.nil) rfl (fun w' s => ⟨s.below, ?_⟩)
    exact rfl
   ·
    replace hm := ite_f hc5 hm
    refine WP.skip (block_normal (then_normal (WP.seq (WP.region ?_))))
    refine WL.step (Runs.free rfl) rfl rfl (os_alloc (cs := [(.bool false), (.bool false), (.bool false), (.bool false), (.bool false), (.bool false)]) Tryz.zeroValue93 rfl rfl (fun b2 => ?_))
    refine WL.step (Runs.free rfl) rfl rfl (os_alloc (cs := [(.bool false), (.bool false), (.bool false), (.bool false), (.bool false), (.bool false)]) Tryz.zeroValue93 rfl rfl (fun b3 => ?_))
    refine WL.nil (then_normal ?_)
    obtain ⟨k1, hk1, hm⟩ := joinK_some hm
    refine WP.seq_join (fun g' S' => ∃ (c31 : Bool) (c32 : Bool) (c33 : Bool) (c34 : Bool) (c35 : Bool) (c36 : Bool) (c37 : Bool) (c38 : Bool) (c39 : Bool) (c40 : Bool) (c41 : Bool) (c42 : Bool), Sub [(1, (pB b1 0)), (3, (pB b2 0)), (4, (pB b3 0)), (1000000007, (.bool false))] g' ∧ (∀ w', S' w' → St w H [.blk b3 93 [(.bool c37), (.bool c38), (.bool c39), (.bool c40), (.bool c41), (.bool c42)], .blk b2 93 [(.bool c31), (.bool c32), (.bool c33), (.bool c34), (.bool c35), (.bool c36)], .blk b1 24 [(.int .i64 p_s.actuators), (.slice ao1 p_s.steps.length cap1)]] H w') ∧ k1 c31 c32 c33 c34 c35 c36 c37 c38 c39 c40 c41 c42 = some r) ?_ ?_
    ·
     skip
     refine WP.seq (WP.region ?_)
     refine wq rfl rfl rfl (ov_fieldAddr Tryz.underlying24 rfl rfl rfl Tryz.sizeOf22 rfl rfl) ?_
     refine wq rfl rfl rfl (ov_load_box (i := 2) Tryz.isAgg22 rfl rfl rfl rfl) ?_
     refine wq rfl rfl rfl (ov_len_slice Tryz.underlying22 rfl rfl) ?_
     refine wq rfl rfl rfl (ov_move rfl rfl) ?_
     refine WL.nil (then_normal (WP.block ?_))
     refine WP.loop (fun m1 g' S' => ∃ (i1 : Int) (c1 : Bool) (c2 : Bool) (c3 : Bool) (c4 : Bool) (c5 : Bool) (c6 : Bool) (c7 : Bool) (c8 : Bool) (c9 : Bool) (c10 : Bool) (c11 : Bool) (c12 : Bool), Sub [(1, (pB b1 0)), (3, (pB b2 0)), (4, (pB b3 0)), (30, (.slice ao1 p_s.steps.length cap1)), (31, (.int .i64 (p_s.steps.length : Int))), (32, (.int .i64 i1)), (1000000007, (.bool false))] g' ∧ (∀ w', S' w' → St w H [.blk b3 93 [(.bool c7), (.bool c8), (.bool c9), (.bool c10), (.bool c11), (.bool c12)], .blk b2 93 [(.bool c1), (.bool c2), (.bool c3), (.bool c4), (.bool c5), (.bool c6)], .blk b1 24 [(.int .i64 p_s.actuators), (.slice ao1 p_s.steps.length cap1)]] H w') ∧ sequence_Check_loop1 p_s k1 m1 i1 c1 c2 c3 c4 c5 c6 c7 c8 c9 c10 c11 c12 = some r) ((Int.toNat ((p_s.steps.length : Int) - 0) + 1)) ⟨0, false, false, false, false, false, false, false, false, false, false, false, false, (Sub.cons rfl (Sub.cons rfl (Sub.cons rfl (Sub.cons rfl (Sub.cons rfl (Sub.cons rfl (Sub.cons rfl (Sub.nil _)))))))), fun w' s => s, hm⟩ ?_ ?_
     ·
      rintro g' S' ⟨_, _, _, _, _, _, _, _, _, _, _, _, _, _, _, hm⟩
      exact none_some hm
     ·
      rintro m1 g' S' ⟨i1, c1, c2, c3, c4, c5, c6, c7, c8, c9, c10, c11, c12, hsub1, hS1, hm⟩
      refine WP.sub hsub1 (WP.weaken hS1 ?_)
      rw [sequence_Check_loop1] at hm
      refine WP.seq (WP.region ?_)
      refine wq rfl rfl rfl (ov_lss rfl rfl rfl) ?_
      refine WL.nil (then_normal (WP.seq ?_))
      refine WP.cond rfl (fun hc6 => ?_) (fun hc6 => ?_)
      ·
       replace hm := ite_t hc6 hm
       refine WP.skip (then_normal ?_)
       obtain ⟨k2, hk2, hm⟩ := joinK_some hm
       refine WP.seq_join (fun g' S' => ∃ (c19 : Bool) (c20 : Bool) (c21 : Bool) (c22 : Bool) (c23 : Bool) (c24 : Bool) (c25 : Bool) (c26 : Bool) (c27 : Bool) (c28 : Bool) (c29 : Bool) (c30 : Bool), Sub [(1, (pB b1 0)), (3, (pB b2 0)), (4, (pB b3 0)), (30, (.slice ao1 p_s.steps.length cap1)), (31, (.int .i64 (p_s.steps.length : Int))), (32, (.int .i64 i1)), (1000000007, (.bool false))] g' ∧ (∀ w', S' w' → St w H [.blk b3 93 [(.bool c25), (.bool c26), (.bool c27), (.bool c28), (.bool c29), (.bool c30)], .blk b2 93 [(.bool c19), (.bool c20), (.bool c21), (.bool c22), (.bool c23), (.bool c24)], .blk b1 24 [(.int .i64 p_s.actuators), (.slice ao1 p_s.steps.length cap1)]] H w') ∧ k2 c19 c20 c21 c22 c23 c24 c25 c26 c27 c28 c29 c30 = some r) ?_ ?_
       ·
        skip
        refine WP.block (WP.seq (WP.region ?_))
        obtain ⟨x1, e1, hm⟩ := bind_some hm
        obtain ⟨h3, h4, h5, cs1, h6, h7⟩ := h1.get e1 (by decide)
        obtain ⟨ao2, cap2, rfl, h2, hc7⟩ := h6
        refine wq rfl rfl rfl (ov_indexAddr Tryz.underlying22 Tryz.sizeOf37 rfl rfl rfl h3 h4 h5) ?_
        refine wq rfl rfl rfl (ov_load_elems (vs := [(.slice ao2 x1.strokes.length cap2), (.int .i64 x1.wait)]) Tryz.isAgg37 Tryz.sizeOf37 rfl rfl rfl h7 h5) ?_
        refine WL.step (Runs.free rfl) rfl rfl (os_alloc (cs := [(.slice none 0 0), (.int .i64 0)]) Tryz.zeroValue37 rfl rfl (fun b4 => ?_))
        refine WL.step0 (Runs.free rfl) rfl (os_store (i := 0) (vs := [(.slice ao2 x1.strokes.length cap2), (.int .i64 x1.wait)]) (cs' := [(.slice ao2 x1.strokes.length cap2), (.int .i64 x1.wait)]) Tryz.sizeOf37 rfl rfl rfl rfl rfl rfl rfl rfl rfl ?_)
        refine WL.nil (then_normal (WP.seq (WP.seq (WP.region ?_))))
        refine wq rfl rfl rfl (ov_load_whole (i := 3) Tryz.isAgg24 Tryz.sizeOf24 rfl rfl rfl rfl) ?_
        refine wq rfl rfl rfl (ov_load_whole (i := 0) Tryz.isAgg37 Tryz.sizeOf37 rfl rfl rfl rfl) ?_
        refine wq rfl rfl rfl (ov_load_whole (i := 2) Tryz.isAgg93 Tryz.sizeOf93 rfl rfl rfl rfl) ?_
        obtain ⟨r1, e2, hm⟩ := bind_some hm
        refine WL.quiet (Runs.free rfl) rfl rfl (oq_con (r := (.int .i64 r1)) Tryz.call59 rfl rfl (fun w' s => ⟨_, (sequence_fits_con p_s x1 (Ends6.mk c1 c2 c3 c4 c5 c6) ao1 cap1 ao2 cap2  w' H s.hold h1 hc1 h2 hc7 hG r1 e2)⟩)) ?_
        refine wq rfl rfl rfl (ov_assign rfl rfl) ?_
        refine WL.nil (then_normal (WP.seq (WP.region ?_)))
        refine wq rfl rfl rfl (ov_move rfl rfl) ?_
        refine wq rfl rfl rfl (ov_neq rfl rfl rfl) ?_
        refine WL.nil (then_normal ?_)
        refine WP.cond rfl (fun hc8 => ?_) (fun hc8 => ?_)
        ·
         replace hm := ite_t hc8 hm
         refine WP.seq (WP.region ?_)
         refine wq rfl rfl rfl (ov_move rfl rfl) ?_
         refine wq rfl rfl rfl (ov_assign rfl rfl) ?_
         refine WL.nil (then_normal (WP.ret (then_ret (block_ret (then_ret (then_ret (block_ret (then_ret ?_))))))))
         obtain rfl := Option.some.inj hm
         refine retQ_ret Tryz.results30 (Res.tmp rfl Res.nil) rfl (fun w' s => ⟨s.below, ?_⟩)
         exact rfl
        ·
         replace hm := ite_f hc8 hm
         refine WP.skip (then_normal (WP.seq (WP.region ?_)))
         refine wq rfl rfl rfl (ov_load_whole (i := 2) Tryz.isAgg93 Tryz.sizeOf93 rfl rfl rfl rfl) ?_
         refine wq rfl rfl rfl (ov_load_whole (i := 0) Tryz.isAgg37 Tryz.sizeOf37 rfl rfl rfl rfl) ?_
         obtain ⟨r2, e3, hm⟩ := bind_some hm
         refine WL.quiet (Runs.free rfl) rfl rfl (oq_con (r := (.agg #[(.bool r2.a0), (.bool r2.a1), (.bool r2.a2), (.bool r2.a3), (.bool r2.a4), (.bool r2.a5)])) Tryz.call60 rfl rfl (fun w' s => ⟨_, (sequence_ends_behind_con (Ends6.mk c1 c2 c3 c4 c5 c6) x1 ao2 cap2  w' H s.hold h2 hc7 hG r2 e3)⟩)) ?_
         refine WL.step0 (Runs.free rfl) rfl (os_store (i := 2) (vs := [(.bool r2.a0), (.bool r2.a1), (.bool r2.a2), (.bool r2.a3), (.bool r2.a4), (.bool r2.a5)]) (cs' := [(.bool r2.a0), (.bool r2.a1), (.bool r2.a2), (.bool r2.a3), (.bool r2.a4), (.bool r2.a5)]) Tryz.sizeOf93 rfl rfl rfl rfl rfl rfl rfl rfl rfl ?_)
         refine WL.nil (then_normal (WP.seq (WP.region ?_)))
         refine wq rfl rfl rfl (ov_fieldAddr Tryz.underlying37 rfl rfl rfl Tryz.sizeOf25 rfl rfl) ?_
         refine wq rfl rfl rfl (ov_load_box (i := 0) Tryz.isAgg25 rfl rfl rfl rfl) ?_
         refine wq rfl rfl rfl (ov_len_slice Tryz.underlying25 rfl rfl) ?_
         refine wq rfl rfl rfl (ov_move rfl rfl) ?_
         refine WL.nil (then_normal (WP.block ?_))
         refine WP.loop (fun m2 g' S' => ∃ (i2 : Int) (c13 : Bool) (c14 : Bool) (c15 : Bool) (c16 : Bool) (c17 : Bool) (c18 : Bool), Sub [(1, (pB b1 0)), (3, (pB b2 0)), (4, (pB b3 0)), (30, (.slice ao1 p_s.steps.length cap1)), (31, (.int .i64 (p_s.steps.length : Int))), (32, (.int .i64 i1)), (47, (.slice ao2 x1.strokes.length cap2)), (48, (.int .i64 (x1.strokes.length : Int))), (49, (.int .i64 i2)), (1000000007, (.bool false))] g' ∧ (∀ w', S' w' → St w H [.blk b3 93 [(.bool c13), (.bool c14), (.bool c15), (.bool c16), (.bool c17), (.bool c18)], .blk b2 93 [(.bool r2.a0), (.bool r2.a1), (.bool r2.a2), (.bool r2.a3), (.bool r2.a4), (.bool r2.a5)], .blk b1 24 [(.int .i64 p_s.actuators), (.slice ao1 p_s.steps.length cap1)]] H w') ∧ sequence_Check_loop2 k2 x1 r2 m2 i2 c13 c14 c15 c16 c17 c18 = some r) ((Int.toNat ((x1.strokes.length : Int) - 0) + 1)) ⟨0, c7, c8, c9, c10, c11, c12, (Sub.cons rfl (Sub.cons rfl (Sub.cons rfl (Sub.cons rfl (Sub.cons rfl (Sub.cons rfl (Sub.cons rfl (Sub.cons rfl (Sub.cons rfl (Sub.cons rfl (Sub.nil _))))))))))), fun w' s => (s.select [1, 2, 3] (by decide) rfl), hm⟩ ?_ ?_
         ·
          rintro g' S' ⟨_, _, _, _, _, _, _, _, _, hm⟩
          exact none_some hm
         ·
          rintro m2 g' S' ⟨i2, c13, c14, c15, c16, c17, c18, hsub2, hS2, hm⟩
          refine WP.sub hsub2 (WP.weaken hS2 ?_)
          rw [sequence_Check_loop2] at hm
          refine WP.seq (WP.region ?_)
          refine wq rfl rfl rfl (ov_lss rfl rfl rfl) ?_
          refine WL.nil (then_normal (WP.seq ?_))
          refine WP.cond rfl (fun hc9 => ?_) (fun hc9 => ?_)
          ·
           replace hm := ite_t hc9 hm
           refine WP.skip (then_normal (WP.seq (WP.block (WP.seq (WP.region ?_)))))
           obtain ⟨x2, e4, hm⟩ := bind_some hm
           obtain ⟨h8, h9, h10, cs2, h11, h12⟩ := h2.get e4 (by decide)
           obtain rfl : cs2 = [(.int .i64 x2.actuator), (.bool x2.out)] := h11
           refine wq rfl rfl rfl (ov_indexAddr Tryz.underlying25 Tryz.sizeOf40 rfl rfl rfl h8 h9 h10) ?_
           refine wq rfl rfl rfl (ov_load_elems (vs := [(.int .i64 x2.actuator), (.bool x2.out)]) Tryz.isAgg40 Tryz.sizeOf40 rfl rfl rfl h12 h10) ?_
           refine WL.step (Runs.free rfl) rfl rfl (os_alloc (cs := [(.int .i64 0), (.bool false)]) Tryz.zeroValue40 rfl rfl (fun b5 => ?_))
           refine WL.step0 (Runs.free rfl) rfl (os_store (i := 0) (vs := [(.int .i64 x2.actuator), (.bool x2.out)]) (cs' := [(.int .i64 x2.actuator), (.bool x2.out)]) Tryz.sizeOf40 rfl rfl rfl rfl rfl rfl rfl rfl rfl ?_)
           refine WL.nil (then_normal (WP.region ?_))
           refine wq rfl rfl rfl (ov_fieldAddr Tryz.underlying40 rfl rfl rfl Tryz.sizeOf3 rfl rfl) ?_
           refine wq rfl rfl rfl (ov_load_box (i := 0) Tryz.isAgg3 rfl rfl rfl rfl) ?_
           rcases Bool.eq_false_or_eq_true (x2.actuator == 0) with hc10 | hc10
           ·
            replace hm := ite_t hc10 hm
            refine wq rfl rfl rfl (ov_indexAddr_at (j := 0) Tryz.underlying93 Tryz.sizeOf4 rfl rfl rfl (eq_of_beq hc10) rfl) ?_
            refine WL.step0 (Runs.free rfl) rfl (os_store (i := 1) (vs := [(.bool true)]) (cs' := [(.bool true), (.bool c14), (.bool c15), (.bool c16), (.bool c17), (.bool c18)]) Tryz.sizeOf4 rfl rfl rfl rfl rfl rfl rfl rfl rfl ?_)
            refine WL.nil (block_normal (then_normal (WP.region ?_)))
            refine wq rfl rfl rfl (ov_add rfl rfl rfl) ?_
            refine wq rfl rfl rfl (ov_move rfl rfl) ?_
            refine WL.nil (then_normal ?_)
            exact ⟨(IntKind.wrap .i64 (i2 + 1)), true, c14, c15, c16, c17, c18, (Sub.cons rfl (Sub.cons rfl (Sub.cons rfl (Sub.cons rfl (Sub.cons rfl (Sub.cons rfl (Sub.cons rfl (Sub.cons rfl (Sub.cons rfl (Sub.cons rfl (Sub.nil _))))))))))), fun w' s => (s.select [1, 2, 3] (by decide) rfl), hm⟩
           ·
            replace hm := ite_f hc10 hm
            rcases Bool.eq_false_or_eq_true (x2.actuator == 1) with hc11 | hc11
            ·
             replace hm := ite_t hc11 hm
             refine wq rfl rfl rfl (ov_indexAddr_at (j := 1) Tryz.underlying93 Tryz.sizeOf4 rfl rfl rfl (eq_of_beq hc11) rfl) ?_
             refine WL.step0 (Runs.free rfl) rfl (os_store (i := 1) (vs := [(.bool true)]) (cs' := [(.bool c13), (.bool true), (.bool c15), (.bool c16), (.bool c17), (.bool c18)]) Tryz.sizeOf4 rfl rfl rfl rfl rfl rfl rfl rfl rfl ?_)
             refine WL.nil (block_normal (then_normal (WP.region ?_)))
             refine wq rfl rfl rfl (ov_add rfl rfl rfl) ?_
             refine wq rfl rfl rfl (ov_move rfl rfl) ?_
             refine WL.nil (then_normal ?_)
             exact ⟨(IntKind.wrap .i64 (i2 + 1)), c13, true, c15, c16, c17, c18, (Sub.cons rfl (Sub.cons rfl (Sub.cons rfl (Sub.cons rfl (Sub.cons rfl (Sub.cons rfl (Sub.cons rfl (Sub.cons rfl (Sub.cons rfl (Sub.cons rfl (Sub.nil _))))))))))), fun w' s => (s.select [1, 2, 3] (by decide) rfl), hm⟩
            ·
             replace hm := ite_f hc11 hm
             rcases Bool.eq_false_or_eq_true (x2.actuator == 2) with hc12 | hc12
             ·
              replace hm := ite_t hc12 hm
              refine wq rfl rfl rfl (ov_indexAddr_at (j := 2) Tryz.underlying93 Tryz.sizeOf4 rfl rfl rfl (eq_of_beq hc12) rfl) ?_
              refine WL.step0 (Runs.free rfl) rfl (os_store (i := 1) (vs := [(.bool true)]) (cs' := [(.bool c13), (.bool c14), (.bool true), (.bool c16), (.bool c17), (.bool c18)]) Tryz.sizeOf4 rfl rfl rfl rfl rfl rfl rfl rfl rfl ?_)
              refine WL.nil (block_normal (then_normal (WP.region ?_)))
              refine wq rfl rfl rfl (ov_add rfl rfl rfl) ?_
              refine wq rfl rfl rfl (ov_move rfl rfl) ?_
              refine WL.nil (then_normal ?_)
              exact ⟨(IntKind.wrap .i64 (i2 + 1)), c13, c14, true, c16, c17, c18, (Sub.cons rfl (Sub.cons rfl (Sub.cons rfl (Sub.cons rfl (Sub.cons rfl (Sub.cons rfl (Sub.cons rfl (Sub.cons rfl (Sub.cons rfl (Sub.cons rfl (Sub.nil _))))))))))), fun w' s => (s.select [1, 2, 3] (by decide) rfl), hm⟩
             ·
              replace hm := ite_f hc12 hm
              rcases Bool.eq_false_or_eq_true (x2.actuator == 3) with hc13 | hc13
              ·
               replace hm := ite_t hc13 hm
               refine wq rfl rfl rfl (ov_indexAddr_at (j := 3) Tryz.underlying93 Tryz.sizeOf4 rfl rfl rfl (eq_of_beq hc13) rfl) ?_
               refine WL.step0 (Runs.free rfl) rfl (os_store (i := 1) (vs := [(.bool true)]) (cs' := [(.bool c13), (.bool c14), (.bool c15), (.bool true), (.bool c17), (.bool c18)]) Tryz.sizeOf4 rfl rfl rfl rfl rfl rfl rfl rfl rfl ?_)
               refine WL.nil (block_normal (then_normal (WP.region ?_)))
               refine wq rfl rfl rfl (ov_add rfl rfl rfl) ?_
               refine wq rfl rfl rfl (ov_move rfl rfl) ?_
               refine WL.nil (then_normal ?_)
               exact ⟨(IntKind.wrap .i64 (i2 + 1)), c13, c14, c15, true, c17, c18, (Sub.cons rfl (Sub.cons rfl (Sub.cons rfl (Sub.cons rfl (Sub.cons rfl (Sub.cons rfl (Sub.cons rfl (Sub.cons rfl (Sub.cons rfl (Sub.cons rfl (Sub.nil _))))))))))), fun w' s => (s.select [1, 2, 3] (by decide) rfl), hm⟩
              ·
               replace hm := ite_f hc13 hm
               rcases Bool.eq_false_or_eq_true (x2.actuator == 4) with hc14 | hc14
               ·
                replace hm := ite_t hc14 hm
                refine wq rfl rfl rfl (ov_indexAddr_at (j := 4) Tryz.underlying93 Tryz.sizeOf4 rfl rfl rfl (eq_of_beq hc14) rfl) ?_
                refine WL.step0 (Runs.free rfl) rfl (os_store (i := 1) (vs := [(.bool true)]) (cs' := [(.bool c13), (.bool c14), (.bool c15), (.bool c16), (.bool true), (.bool c18)]) Tryz.sizeOf4 rfl rfl rfl rfl rfl rfl rfl rfl rfl ?_)
                refine WL.nil (block_normal (then_normal (WP.region ?_)))
                refine wq rfl rfl rfl (ov_add rfl rfl rfl) ?_
                refine wq rfl rfl rfl (ov_move rfl rfl) ?_
                refine WL.nil (then_normal ?_)
                exact ⟨(IntKind.wrap .i64 (i2 + 1)), c13, c14, c15, c16, true, c18, (Sub.cons rfl (Sub.cons rfl (Sub.cons rfl (Sub.cons rfl (Sub.cons rfl (Sub.cons rfl (Sub.cons rfl (Sub.cons rfl (Sub.cons rfl (Sub.cons rfl (Sub.nil _))))))))))), fun w' s => (s.select [1, 2, 3] (by decide) rfl), hm⟩
               ·
                replace hm := ite_f hc14 hm
                rcases Bool.eq_false_or_eq_true (x2.actuator == 5) with hc15 | hc15
                ·
                 replace hm := ite_t hc15 hm
                 refine wq rfl rfl rfl (ov_indexAddr_at (j := 5) Tryz.underlying93 Tryz.sizeOf4 rfl rfl rfl (eq_of_beq hc15) rfl) ?_
                 refine WL.step0 (Runs.free rfl) rfl (os_store (i := 1) (vs := [(.bool true)]) (cs' := [(.bool c13), (.bool c14), (.bool c15), (.bool c16), (.bool c17), (.bool true)]) Tryz.sizeOf4 rfl rfl rfl rfl rfl rfl rfl rfl rfl ?_)
                 refine WL.nil (block_normal (then_normal (WP.region ?_)))
                 refine wq rfl rfl rfl (ov_add rfl rfl rfl) ?_
                 refine wq rfl rfl rfl (ov_move rfl rfl) ?_
                 refine WL.nil (then_normal ?_)
                 exact ⟨(IntKind.wrap .i64 (i2 + 1)), c13, c14, c15, c16, c17, true, (Sub.cons rfl (Sub.cons rfl (Sub.cons rfl (Sub.cons rfl (Sub.cons rfl (Sub.cons rfl (Sub.cons rfl (Sub.cons rfl (Sub.cons rfl (Sub.cons rfl (Sub.nil _))))))))))), fun w' s => (s.select [1, 2, 3] (by decide) rfl), hm⟩
                ·
                 replace hm := ite_f hc15 hm
                 exact (none_some hm).elim
          ·
           replace hm := ite_f hc9 hm
           refine WP.exit (then_exit (then_exit (block_here (block_normal (then_normal ?_)))))
           exact ⟨r2.a0, r2.a1, r2.a2, r2.a3, r2.a4, r2.a5, c13, c14, c15, c16, c17, c18, (Sub.cons rfl (Sub.cons rfl (Sub.cons rfl (Sub.cons rfl (Sub.cons rfl (Sub.cons rfl (Sub.cons rfl (Sub.nil _)))))))), fun w' s => s, hm⟩
       ·
        rintro g' S' ⟨c19, c20, c21, c22, c23, c24, c25, c26, c27, c28, c29, c30, hsub3, hS3, hm⟩
        refine WP.sub hsub3 (WP.weaken hS3 ?_)
        replace hm := (congrFun (congrFun (congrFun (congrFun (congrFun (congrFun (congrFun (congrFun (congrFun (congrFun (congrFun (congrFun hk2 c19) c20) c21) c22) c23) c24) c25) c26) c27) c28) c29) c30).symm.trans hm
        refine WP.region ?_
        refine wq rfl rfl rfl (ov_add rfl rfl rfl) ?_
        refine wq rfl rfl rfl (ov_move rfl rfl) ?_
        refine WL.nil (then_normal ?_)
        exact ⟨(IntKind.wrap .i64 (i1 + 1)), c19, c20, c21, c22, c23, c24, c25, c26, c27, c28, c29, c30, (Sub.cons rfl (Sub.cons rfl (Sub.cons rfl (Sub.cons rfl (Sub.cons rfl (Sub.cons rfl (Sub.cons rfl (Sub.nil _)))))))), fun w' s => s, hm⟩
      ·
       replace hm := ite_f hc6 hm
       refine WP.exit (then_exit (then_exit (block_here (then_normal ?_))))
       exact ⟨c1, c2, c3, c4, c5, c6, c7, c8, c9, c10, c11, c12, (Sub.cons rfl (Sub.cons rfl (Sub.cons rfl (Sub.cons rfl (Sub.nil _))))), fun w' s => s, hm⟩
    ·
     rintro g' S' ⟨c31, c32, c33, c34, c35, c36, c37, c38, c39, c40, c41, c42, hsub4, hS4, hm⟩
     refine WP.sub hsub4 (WP.weaken hS4 ?_)
     replace hm := (congrFun (congrFun (congrFun (congrFun (congrFun (congrFun (congrFun (congrFun (congrFun (congrFun (congrFun (congrFun hk1 c31) c32) c33) c34) c35) c36) c37) c38) c39) c40) c41) c42).symm.trans hm
     refine WP.seq (WP.seq (WP.region ?_))
     refine wq rfl rfl rfl (ov_load_whole (i := 1) Tryz.isAgg93 Tryz.sizeOf93 rfl rfl rfl rfl) ?_
     refine wq rfl rfl rfl (ov_build (r := (.agg #[(.bool false), (.bool false), (.bool false), (.bool false), (.bool false), (.bool false)])) rfl rfl (fun _ => by kernel_rfl)) ?_
     refine wq rfl rfl rfl (neq_struct93 (a := (Ends6.mk c31 c32 c33 c34 c35 c36)) (b := (Ends6.mk false false false false false false)) rfl rfl rfl) ?_
     refine WL.nil (then_normal ?_)
     refine WP.cond rfl (fun hc16 => ?_) (fun hc16 => ?_)
     ·
      replace hm := ite_t hc16 hm
      refine WP.seq (WP.region ?_)
      refine wq rfl rfl rfl (ov_assign rfl rfl) ?_
      refine WL.nil (then_normal (WP.ret (then_ret ?_)))
      obtain rfl := Option.some.inj hm
      refine retQ_ret Tryz.results30 (Res.tmp rfl Res.nil) rfl (fun w' s => ⟨s.below, ?_⟩)
      exact rfl
     ·
      replace hm := ite_f hc16 hm
      refine WP.skip (then_normal (WP.seq (WP.seq (WP.region ?_))))
      refine wq rfl rfl rfl (ov_fieldAddr Tryz.underlying24 rfl rfl rfl Tryz.sizeOf3 rfl rfl) ?_
      refine wq rfl rfl rfl (ov_load_box (i := 2) Tryz.isAgg3 rfl rfl rfl rfl) ?_
      refine WL.box_held (fun H1 hle1 hc17 => ?_)
      have h13 : SL H1 encBool (some ⟨b3, 0, none⟩) ([c37, c38, c39, c40, c41, c42] : List Bool) := sl_boxB hc17
      replace h1 := h1.mono hle1
      replace hG := hG.mono hle1
      obtain ⟨l1, e5, hm⟩ := bind_some hm
      obtain ⟨ao3, cap3, h14, h15, hc18⟩ := sl_arr_h h13 e5
      refine wq rfl rfl rfl (h14 Tryz.underlying93 Tryz.sizeOf4 rfl rfl rfl) ?_
      obtain ⟨r3, e6, hm⟩ := bind_some hm
      refine WL.quiet (Runs.free rfl) rfl rfl (oq_con (r := (.bool r3)) Tryz.call43 rfl rfl (fun w' s => ⟨_, (slices_Contains_boolbool_con l1 false ao3 cap3  w' H1 s.hold h15 hc18 hG r3 e6)⟩)) ?_
      refine WL.nil (then_normal ?_)
      refine WP.cond rfl (fun hc19 => ?_) (fun hc19 => ?_)
      ·
       replace hm := ite_t hc19 hm
       refine WP.seq (WP.region ?_)
       refine wq rfl rfl rfl (ov_assign rfl rfl) ?_
       refine WL.nil (then_normal (WP.ret (then_ret ?_)))
       obtain rfl := Option.some.inj hm
       refine retQ_ret Tryz.results30 (Res.tmp rfl Res.nil) rfl (fun w' s => ⟨s.below, ?_⟩)
       exact rfl
      ·
       replace hm := ite_f hc19 hm
       refine WP.skip (then_normal (WP.seq (WP.region ?_)))
       refine wq rfl rfl rfl (ov_assign rfl rfl) ?_
       refine WL.nil (then_normal (WP.ret ?_))
       obtain rfl := Option.some.inj hm
       refine retQ_ret Tryz.results30 (Res.tmp rfl Res.nil) rfl (fun w' s => ⟨s.below, ?_⟩)
       exact rfl

theorem slices_Index_api_Strokeapi_Stroke_con (p_s : (List Stroke)) (p_v : Stroke) (ao1 : Option Addr) (cap1 : Nat) (w : World) (H : Heap) (hH : Le H (hp w)) (h1 : SL H encStroke ao1 p_s) (hc1 : p_s.length ≤ cap1) (hG : Glob H) (r : Int) (hm : slices_Index_api_Strokeapi_Stroke p_s p_v = some r) :
  Con Tryz.prog 80 [(.slice ao1 p_s.length cap1), (.agg #[(.int .i64 p_v.actuator), (.bool p_v.out)])] w H (fun v _ => v = (.int .i64 r)) := by
 unfold slices_Index_api_Strokeapi_Stroke at hm
 refine con_of hH Tryz.func80 rfl 19 Tryz.ntmps80 rfl ?_
 refine WP.seq (WP.region ?_)
 refine WL.step (Runs.free rfl) rfl rfl (os_box (cs := [(.int .i64 p_v.actuator), (.bool p_v.out)]) rfl rfl rfl (fun b1 => ?_))
 refine wq rfl rfl rfl (ov_assign rfl rfl) ?_
 refine WL.nil (then_normal ?_)
 obtain ⟨k1, hk1, hm⟩ := joinK_some hm
 refine WP.seq_join (fun g' S' => Sub [(1000000007, (.bool false))] g' ∧ (∀ w', S' w' → St w H [] H w') ∧ k1 = some r) ?_ ?_
 ·
  skip
  refine WP.seq (WP.region ?_)
  refine wq rfl rfl rfl (ov_move rfl rfl) ?_
  refine wq rfl rfl rfl (ov_len_slice Tryz.underlying25 rfl rfl) ?_
  refine wq rfl rfl rfl (ov_move rfl rfl) ?_
  refine WL.nil (then_normal (WP.block ?_))
  refine WP.loop (fun m1 g' S' => ∃ (i1 : Int), Sub [(0, (.slice ao1 p_s.length cap1)), (3, (pB b1 0)), (7, (.int .i64 (p_s.length : Int))), (8, (.int .i64 i1)), (1000000007, (.bool false))] g' ∧ (∀ w', S' w' → St w H [.blk b1 40 [(.int .i64 p_v.actuator), (.bool p_v.out)]] H w') ∧ slices_Index_api_Strokeapi_Stroke_loop1 p_s p_v k1 m1 i1 = some r) ((Int.toNat ((p_s.length : Int) - 0) + 1)) ⟨0, (Sub.cons rfl (Sub.cons rfl (Sub.cons rfl (Sub.cons rfl (Sub.cons rfl (Sub.nil _)))))), fun w' s => s, hm⟩ ?_ ?_
  ·
   rintro g' S' ⟨_, _, _, hm⟩
   exact none_some hm
  ·
   rintro m1 g' S' ⟨i1, hsub1, hS1, hm⟩
   refine WP.sub hsub1 (WP.weaken hS1 ?_)
   rw [slices_Index_api_Strokeapi_Stroke_loop1] at hm
   refine WP.seq (WP.region ?_)
   refine wq rfl rfl rfl (ov_lss rfl rfl rfl) ?_
   refine WL.nil (then_normal (WP.seq ?_))
   refine WP.cond rfl (fun hc2 => ?_) (fun hc2 => ?_)
   ·
    replace hm := ite_t hc2 hm
    refine WP.skip (then_normal (WP.seq (WP.block (WP.seq (WP.region ?_)))))
    refine wq rfl rfl rfl (ov_move rfl rfl) ?_
    refine wq rfl rfl rfl (ov_assign rfl rfl) ?_
    refine WL.nil (then_normal (WP.seq ?_))
    refine WP.region_draws (by kernel_rfl) (by kernel_rfl) (fun _ s => s.drew) ?_
    refine QL.quiet (Runs.free rfl) rfl rfl (OV.quiet (ov_load_whole (i := 0) Tryz.isAgg40 Tryz.sizeOf40 rfl rfl rfl rfl)) ?_
    refine QL.quiet (Runs.free rfl) rfl rfl (OV.quiet (ov_move rfl rfl)) ?_
    refine QL.quiet (Runs.free rfl) rfl rfl (OV.quiet (ov_move rfl rfl)) ?_
    obtain ⟨x1, e1, hm⟩ := bind_some hm
    obtain ⟨h2, h3, h4, cs1, h5, h6⟩ := h1.get e1 (by decide)
    obtain rfl : cs1 = [(.int .i64 x1.actuator), (.bool x1.out)] := h5
    refine QL.quiet (Runs.free rfl) rfl rfl (OV.quiet (ov_indexAddr Tryz.underlying25 Tryz.sizeOf40 rfl rfl rfl h2 h3 h4)) ?_
    refine QL.quiet (Runs.free rfl) rfl rfl (OV.quiet (ov_load_elems (vs := [(.int .i64 x1.actuator), (.bool x1.out)]) Tryz.isAgg40 Tryz.sizeOf40 rfl rfl rfl h6 h4)) ?_
    refine QL.quiet (Runs.free rfl) rfl rfl (OV.quiet (eql_struct40 (a := p_v) (b := x1) rfl rfl rfl)) ?_
    refine QL.nil ?_
    refine then_normal ?_
    refine WP.cond rfl (fun hc3 => ?_) (fun hc3 => ?_)
    ·
     replace hm := ite_t hc3 hm
     refine WP.seq (WP.region ?_)
     refine wq rfl rfl rfl (ov_move rfl rfl) ?_
     refine wq rfl rfl rfl (ov_assign rfl rfl) ?_
     refine WL.nil (then_normal (WP.ret (block_ret (then_ret (then_ret (block_ret (then_ret ?_)))))))
     obtain rfl := Option.some.inj hm
     refine retQ_ret Tryz.results80 (Res.tmp rfl Res.nil) rfl (fun w' s => ⟨s.below, ?_⟩)
     exact rfl
    ·
     replace hm := ite_f hc3 hm
     refine WP.skip (block_normal (then_normal (WP.region ?_)))
     refine wq rfl rfl rfl (ov_add rfl rfl rfl) ?_
     refine wq rfl rfl rfl (ov_move rfl rfl) ?_
     refine WL.nil (then_normal ?_)
     exact ⟨(IntKind.wrap .i64 (i1 + 1)), (Sub.cons rfl (Sub.cons rfl (Sub.cons rfl (Sub.cons rfl (Sub.cons rfl (Sub.nil _)))))), fun w' s => s, hm⟩
   ·
    replace hm := ite_f hc2 hm
    refine WP.exit (then_exit (then_exit (block_here (then_normal ?_))))
    exact ⟨(Sub.cons rfl (Sub.nil _)), fun w' s => (s.select [] (by decide) rfl), hm⟩
 ·
  rintro g' S' ⟨hsub2, hS2, hm⟩
  refine WP.sub hsub2 (WP.weaken hS2 ?_)
  replace hm := hk1.symm.trans hm
  refine WP.seq (WP.region ?_)
  refine wq rfl rfl rfl (ov_assign rfl rfl) ?_
  refine WL.nil (then_normal (WP.ret ?_))
  obtain rfl := Option.some.inj hm
  refine retQ_ret Tryz.results80 (Res.tmp rfl Res.nil) rfl (fun w' s => ⟨s.below, ?_⟩)
  exact rfl

theorem slices_Contains_api_Strokeapi_Stroke_con (p_s : (List Stroke)) (p_v : Stroke) (ao1 : Option Addr) (cap1 : Nat) (w : World) (H : Heap) (hH : Le H (hp w)) (h1 : SL H encStroke ao1 p_s) (hc1 : p_s.length ≤ cap1) (hG : Glob H) (r : Bool) (hm : slices_Contains_api_Strokeapi_Stroke p_s p_v = some r) :
  Con Tryz.prog 49 [(.slice ao1 p_s.length cap1), (.agg #[(.int .i64 p_v.actuator), (.bool p_v.out)])] w H (fun v _ => v = (.bool r)) := by
 unfold slices_Contains_api_Strokeapi_Stroke at hm
 refine con_of hH Tryz.func49 rfl 9 Tryz.ntmps49 rfl ?_
 refine WP.seq (WP.region ?_)
 refine WL.step (Runs.free rfl) rfl rfl (os_box (cs := [(.int .i64 p_v.actuator), (.bool p_v.out)]) rfl rfl rfl (fun b1 => ?_))
 refine wq rfl rfl rfl (ov_assign rfl rfl) ?_
 refine WL.nil (then_normal (WP.seq (WP.region ?_)))
 refine wq rfl rfl rfl (ov_move rfl rfl) ?_
 refine wq rfl rfl rfl (ov_load_whole (i := 0) Tryz.isAgg40 Tryz.sizeOf40 rfl rfl rfl rfl) ?_
 obtain ⟨r1, e1, hm⟩ := bind_some hm
 refine WL.quiet (Runs.free rfl) rfl rfl (oq_con (r := (.int .i64 r1)) Tryz.call80 rfl rfl (fun w' s => ⟨_, (slices_Index_api_Strokeapi_Stroke_con p_s p_v ao1 cap1  w' H s.hold h1 hc1 hG r1 e1)⟩)) ?_
 refine wq rfl rfl rfl (ov_geq rfl rfl rfl) ?_
 refine wq rfl rfl rfl (ov_assign rfl rfl) ?_
 refine WL.nil (then_normal (WP.ret ?_))
 obtain rfl := Option.some.inj hm
 refine retQ_ret Tryz.results49 (Res.tmp rfl Res.nil) rfl (fun w' s => ⟨s.below, ?_⟩)
 exact rfl

theorem sequence_Accepts_con (p_s : Sequence) (p_word : (List Stroke)) (ao1 : Option Addr) (cap1 : Nat) (ao2 : Option Addr) (cap2 : Nat) (w : World) (H : Heap) (hH : Le H (hp w)) (h1 : SL H encStep ao1 p_s.steps) (hc1 : p_s.steps.length ≤ cap1) (h2 : SL H encStroke ao2 p_word) (hc2 : p_word.length ≤ cap2) (hG : Glob H) (r : (Bool × Int)) (hm : sequence_Accepts p_s p_word = some r) :
  Con Tryz.prog 13 [(.agg #[(.int .i64 p_s.actuators), (.slice ao1 p_s.steps.length cap1)]), (.slice ao2 p_word.length cap2)] w H (fun v _ => v = (.tuple #[(.bool r.1), (.int .i64 r.2)])) := by
 unfold sequence_Accepts at hm
 refine con_of hH Tryz.func13 rfl 52 Tryz.ntmps13 rfl ?_
 refine WP.seq (WP.region ?_)
 refine WL.step (Runs.free rfl) rfl rfl (os_box (cs := [(.int .i64 p_s.actuators), (.slice ao1 p_s.steps.length cap1)]) rfl rfl rfl (fun b1 => ?_))
 refine wq rfl rfl rfl (ov_assign rfl rfl) ?_
 refine wq rfl rfl rfl (ov_assign rfl rfl) ?_
 refine WL.nil (then_normal (WP.seq (WP.seq (WP.region ?_))))
 refine wq rfl rfl rfl (ov_load_whole (i := 0) Tryz.isAgg24 Tryz.sizeOf24 rfl rfl rfl rfl) ?_
 obtain ⟨r1, e1, hm⟩ := bind_some hm
 refine WL.quiet (Runs.free rfl) rfl rfl (oq_con (r := (.int .i64 r1)) Tryz.call30 rfl rfl (fun w' s => ⟨_, (sequence_Check_con p_s ao1 cap1  w' H s.hold h1 hc1 hG r1 e1)⟩)) ?_
 refine wq rfl rfl rfl (ov_assign rfl rfl) ?_
 refine WL.nil (then_normal (WP.seq (WP.region ?_)))
 refine wq rfl rfl rfl (ov_move rfl rfl) ?_
 refine wq rfl rfl rfl (ov_neq rfl rfl rfl) ?_
 refine WL.nil (then_normal ?_)
 refine WP.cond rfl (fun hc3 => ?_) (fun hc3 => ?_)
 ·
  replace hm := ite_t hc3 hm
  refine WP.seq (WP.region ?_)
  refine wq rfl rfl rfl (ov_move rfl rfl) ?_
  refine wq rfl rfl rfl (ov_assign rfl rfl) ?_
  refine wq rfl rfl rfl (ov_assign rfl rfl) ?_
  refine WL.nil (then_normal (WP.ret (then_ret ?_)))
  obtain rfl := Option.some.inj hm
  refine retQ_ret Tryz.results13 (Res.tmp rfl (Res.tmp rfl Res.nil)) rfl (fun w' s => ⟨s.below, ?_⟩)
  exact rfl
 ·
  replace hm := ite_f hc3 hm
  refine WP.skip (then_normal ?_)
  obtain ⟨k1, hk1, hm⟩ := joinK_some hm
  refine WP.seq_join (fun g' S' => ∃ (l5 : (List Stroke)) (ao8 : Option Addr) (cap8 : Nat), SL H encStroke ao8 l5 ∧ l5.length ≤ cap8 ∧ Sub [(1, (.slice ao8 l5.length cap8)), (1000000007, (.bool false))] g' ∧ (∀ w', S' w' → St w H [] H w') ∧ k1 l5 = some r) ?_ ?_
  ·
   skip
   refine WP.seq (WP.region ?_)
   refine wq rfl rfl rfl (ov_fieldAddr Tryz.underlying24 rfl rfl rfl Tryz.sizeOf22 rfl rfl) ?_
   refine wq rfl rfl rfl (ov_load_box (i := 0) Tryz.isAgg22 rfl rfl rfl rfl) ?_
   refine wq rfl rfl rfl (ov_len_slice Tryz.underlying22 rfl rfl) ?_
   refine wq rfl rfl rfl (ov_move rfl rfl) ?_
   refine WL.nil (then_normal (WP.block ?_))
   refine WP.loop (fun m1 g' S' => ∃ (l1 : (List Stroke)) (ao3 : Option Addr) (cap3 : Nat) (i1 : Int), SL H encStroke ao3 l1 ∧ l1.length ≤ cap3 ∧ Sub [(1, (.slice ao3 l1.length cap3)), (18, (.slice ao1 p_s.steps.length cap1)), (19, (.int .i64 (p_s.steps.length : Int))), (20, (.int .i64 i1)), (1000000007, (.bool false))] g' ∧ (∀ w', S' w' → St w H [] H w') ∧ sequence_Accepts_loop1 p_s k1 m1 l1 i1 = some r) ((Int.toNat ((p_s.steps.length : Int) - 0) + 1)) ⟨p_word, ao2, cap2, 0, h2, hc2, (Sub.cons rfl (Sub.cons rfl (Sub.cons rfl (Sub.cons rfl (Sub.cons rfl (Sub.nil _)))))), fun w' s => (s.select [] (by decide) rfl), hm⟩ ?_ ?_
   ·
    rintro g' S' ⟨_, _, _, _, _, _, _, _, hm⟩
    exact none_some hm
   ·
    rintro m1 g' S' ⟨l1, ao3, cap3, i1, h3, hc4, hsub1, hS1, hm⟩
    refine WP.sub hsub1 (WP.weaken hS1 ?_)
    rw [sequence_Accepts_loop1] at hm
    refine WP.seq (WP.region ?_)
    refine wq rfl rfl rfl (ov_lss rfl rfl rfl) ?_
    refine WL.nil (then_normal (WP.seq ?_))
    refine WP.cond rfl (fun hc5 => ?_) (fun hc5 => ?_)
    ·
     replace hm := ite_t hc5 hm
     refine WP.skip (then_normal ?_)
     obtain ⟨k2, hk2, hm⟩ := joinK_some hm
     refine WP.seq_join (fun g' S' => ∃ (l4 : (List Stroke)) (ao7 : Option Addr) (cap7 : Nat), SL H encStroke ao7 l4 ∧ l4.length ≤ cap7 ∧ Sub [(1, (.slice ao7 l4.length cap7)), (18, (.slice ao1 p_s.steps.length cap1)), (19, (.int .i64 (p_s.steps.length : Int))), (20, (.int .i64 i1)), (1000000007, (.bool false))] g' ∧ (∀ w', S' w' → St w H [] H w') ∧ k2 l4 = some r) ?_ ?_
     ·
      skip
      refine WP.block (WP.seq (WP.region ?_))
      obtain ⟨x1, e2, hm⟩ := bind_some hm
      obtain ⟨h5, h6, h7, cs1, h8, h9⟩ := h1.get e2 (by decide)
      obtain ⟨ao4, cap4, rfl, h4, hc6⟩ := h8
      refine wq rfl rfl rfl (ov_indexAddr Tryz.underlying22 Tryz.sizeOf37 rfl rfl rfl h5 h6 h7) ?_
      refine wq rfl rfl rfl (ov_load_elems (vs := [(.slice ao4 x1.strokes.length cap4), (.int .i64 x1.wait)]) Tryz.isAgg37 Tryz.sizeOf37 rfl rfl rfl h9 h7) ?_
      refine WL.step (Runs.free rfl) rfl rfl (os_alloc (cs := [(.slice none 0 0), (.int .i64 0)]) Tryz.zeroValue37 rfl rfl (fun b2 => ?_))
      refine WL.step0 (Runs.free rfl) rfl (os_store (i := 0) (vs := [(.slice ao4 x1.strokes.length cap4), (.int .i64 x1.wait)]) (cs' := [(.slice ao4 x1.strokes.length cap4), (.int .i64 x1.wait)]) Tryz.sizeOf37 rfl rfl rfl rfl rfl rfl rfl rfl rfl ?_)
      refine WL.nil (then_normal (WP.seq (WP.region ?_)))
      refine wq rfl rfl rfl (ov_fieldAddr Tryz.underlying37 rfl rfl rfl Tryz.sizeOf25 rfl rfl) ?_
      refine wq rfl rfl rfl (ov_load_box (i := 0) Tryz.isAgg25 rfl rfl rfl rfl) ?_
      refine wq rfl rfl rfl (ov_len_slice Tryz.underlying25 rfl rfl) ?_
      refine wq rfl rfl rfl (ov_assign rfl rfl) ?_
      refine WL.nil (then_normal (WP.seq (WP.seq (WP.region ?_))))
      refine wq rfl rfl rfl (ov_move rfl rfl) ?_
      refine wq rfl rfl rfl (ov_len_slice Tryz.underlying25 rfl rfl) ?_
      refine wq rfl rfl rfl (ov_move rfl rfl) ?_
      refine wq rfl rfl rfl (ov_lss rfl rfl rfl) ?_
      refine WL.nil (then_normal ?_)
      refine WP.cond rfl (fun hc7 => ?_) (fun hc7 => ?_)
      ·
       replace hm := ite_t hc7 hm
       refine WP.seq (WP.region ?_)
       refine wq rfl rfl rfl (ov_assign rfl rfl) ?_
       refine wq rfl rfl rfl (ov_assign rfl rfl) ?_
       refine WL.nil (then_normal (WP.ret (then_ret (block_ret (then_ret (then_ret (block_ret (then_ret ?_))))))))
       obtain rfl := Option.some.inj hm
       refine retQ_ret Tryz.results13 (Res.tmp rfl (Res.tmp rfl Res.nil)) rfl (fun w' s => ⟨s.below, ?_⟩)
       exact rfl
      ·
       replace hm := ite_f hc7 hm
       refine WP.skip (then_normal ?_)
       obtain ⟨k3, hk3, hm⟩ := joinK_some hm
       refine WP.seq_join (fun g' S' => Sub [(1, (.slice ao3 l1.length cap3)), (9, (.int .i64 (x1.strokes.length : Int))), (18, (.slice ao1 p_s.steps.length cap1)), (19, (.int .i64 (p_s.steps.length : Int))), (20, (.int .i64 i1)), (1000000007, (.bool false))] g' ∧ (∀ w', S' w' → St w H [] H w') ∧ k3 = some r) ?_ ?_
       ·
        skip
        refine WP.seq (WP.region ?_)
        refine wq rfl rfl rfl (ov_fieldAddr Tryz.underlying37 rfl rfl rfl Tryz.sizeOf25 rfl rfl) ?_
        refine wq rfl rfl rfl (ov_load_box (i := 0) Tryz.isAgg25 rfl rfl rfl rfl) ?_
        refine wq rfl rfl rfl (ov_len_slice Tryz.underlying25 rfl rfl) ?_
        refine wq rfl rfl rfl (ov_move rfl rfl) ?_
        refine WL.nil (then_normal (WP.block ?_))
        refine WP.loop (fun m2 g' S' => ∃ (i2 : Int), Sub [(1, (.slice ao3 l1.length cap3)), (9, (.int .i64 (x1.strokes.length : Int))), (18, (.slice ao1 p_s.steps.length cap1)), (19, (.int .i64 (p_s.steps.length : Int))), (20, (.int .i64 i1)), (32, (.slice ao4 x1.strokes.length cap4)), (33, (.int .i64 (x1.strokes.length : Int))), (34, (.int .i64 i2)), (1000000007, (.bool false))] g' ∧ (∀ w', S' w' → St w H [] H w') ∧ sequence_Accepts_loop2 l1 x1 k3 m2 i2 = some r) ((Int.toNat ((x1.strokes.length : Int) - 0) + 1)) ⟨0, (Sub.cons rfl (Sub.cons rfl (Sub.cons rfl (Sub.cons rfl (Sub.cons rfl (Sub.cons rfl (Sub.cons rfl (Sub.cons rfl (Sub.cons rfl (Sub.nil _)))))))))), fun w' s => (s.select [] (by decide) rfl), hm⟩ ?_ ?_
        ·
         rintro g' S' ⟨_, _, _, hm⟩
         exact none_some hm
        ·
         rintro m2 g' S' ⟨i2, hsub2, hS2, hm⟩
         refine WP.sub hsub2 (WP.weaken hS2 ?_)
         rw [sequence_Accepts_loop2] at hm
         refine WP.seq (WP.region ?_)
         refine wq rfl rfl rfl (ov_lss rfl rfl rfl) ?_
         refine WL.nil (then_normal (WP.seq ?_))
         refine WP.cond rfl (fun hc8 => ?_) (fun hc8 => ?_)
         ·
          replace hm := ite_t hc8 hm
          refine WP.skip (then_normal (WP.seq (WP.block (WP.seq (WP.region ?_)))))
          obtain ⟨x2, e3, hm⟩ := bind_some hm
          obtain ⟨h10, h11, h12, cs2, h13, h14⟩ := h4.get e3 (by decide)
          obtain rfl : cs2 = [(.int .i64 x2.actuator), (.bool x2.out)] := h13
          refine wq rfl rfl rfl (ov_indexAddr Tryz.underlying25 Tryz.sizeOf40 rfl rfl rfl h10 h11 h12) ?_
          refine wq rfl rfl rfl (ov_load_elems (vs := [(.int .i64 x2.actuator), (.bool x2.out)]) Tryz.isAgg40 Tryz.sizeOf40 rfl rfl rfl h14 h12) ?_
          refine WL.step (Runs.free rfl) rfl rfl (os_alloc (cs := [(.int .i64 0), (.bool false)]) Tryz.zeroValue40 rfl rfl (fun b3 => ?_))
          refine WL.step0 (Runs.free rfl) rfl (os_store (i := 0) (vs := [(.int .i64 x2.actuator), (.bool x2.out)]) (cs' := [(.int .i64 x2.actuator), (.bool x2.out)]) Tryz.sizeOf40 rfl rfl rfl rfl rfl rfl rfl rfl rfl ?_)
          refine WL.nil (then_normal (WP.seq ?_))
          refine WP.region_draws (by kernel_rfl) (by kernel_rfl) (fun _ s => s.drew) ?_
          refine QL.quiet (Runs.free rfl) rfl rfl (OV.quiet (ov_move rfl rfl)) ?_
          refine QL.quiet (Runs.free rfl) rfl rfl (OV.quiet (ov_move rfl rfl)) ?_
          obtain ⟨l2, e4, hm⟩ := bind_some hm
          obtain ⟨ao5, cap5, h15, h16, hc9⟩ := sl_h h3 hc4 e4
          refine QL.quiet (Runs.free rfl) rfl rfl (OV.quiet (h15 Tryz.underlying25 Tryz.sizeOf40 rfl rfl rfl )) ?_
          refine QL.quiet (Runs.free rfl) rfl rfl (OV.quiet (ov_load_whole (i := 0) Tryz.isAgg40 Tryz.sizeOf40 rfl rfl rfl rfl)) ?_
          obtain ⟨r2, e5, hm⟩ := bind_some hm
          refine QL.quiet (Runs.free rfl) rfl rfl (oq_con (r := (.bool r2)) Tryz.call49 rfl rfl (fun w' s => ⟨_, (slices_Contains_api_Strokeapi_Stroke_con l2 x2 ao5 cap5  w' H s.hold h16 hc9 hG r2 e5)⟩)) ?_
          refine QL.quiet (Runs.free rfl) rfl rfl (OV.quiet (ov_not rfl rfl)) ?_
          refine QL.nil ?_
          refine then_normal ?_
          refine WP.cond rfl (fun hc10 => ?_) (fun hc10 => ?_)
          ·
           replace hm := ite_t hc10 hm
           refine WP.seq (WP.region ?_)
           refine wq rfl rfl rfl (ov_assign rfl rfl) ?_
           refine wq rfl rfl rfl (ov_assign rfl rfl) ?_
           refine WL.nil (then_normal (WP.ret (block_ret (then_ret (then_ret (block_ret (then_ret (block_ret (then_ret (then_ret (block_ret (then_ret ?_))))))))))))
           obtain rfl := Option.some.inj hm
           refine retQ_ret Tryz.results13 (Res.tmp rfl (Res.tmp rfl Res.nil)) rfl (fun w' s => ⟨s.below, ?_⟩)
           exact rfl
          ·
           replace hm := ite_f hc10 hm
           refine WP.skip (block_normal (then_normal (WP.region ?_)))
           refine wq rfl rfl rfl (ov_add rfl rfl rfl) ?_
           refine wq rfl rfl rfl (ov_move rfl rfl) ?_
           refine WL.nil (then_normal ?_)
           exact ⟨(IntKind.wrap .i64 (i2 + 1)), (Sub.cons rfl (Sub.cons rfl (Sub.cons rfl (Sub.cons rfl (Sub.cons rfl (Sub.cons rfl (Sub.cons rfl (Sub.cons rfl (Sub.cons rfl (Sub.nil _)))))))))), fun w' s => (s.select [] (by decide) rfl), hm⟩
         ·
          replace hm := ite_f hc8 hm
          refine WP.exit (then_exit (then_exit (block_here (then_normal ?_))))
          exact ⟨(Sub.cons rfl (Sub.cons rfl (Sub.cons rfl (Sub.cons rfl (Sub.cons rfl (Sub.cons rfl (Sub.nil _))))))), fun w' s => s, hm⟩
       ·
        rintro g' S' ⟨hsub3, hS3, hm⟩
        refine WP.sub hsub3 (WP.weaken hS3 ?_)
        replace hm := hk3.symm.trans hm
        refine WP.region ?_
        refine wq rfl rfl rfl (ov_move rfl rfl) ?_
        refine wq rfl rfl rfl (ov_move rfl rfl) ?_
        obtain ⟨l3, e6, hm⟩ := bind_some hm
        obtain ⟨ao6, cap6, h17, h18, hc11⟩ := sl_l h3 hc4 e6
        refine wq rfl rfl rfl (h17 Tryz.underlying25 Tryz.sizeOf40 rfl rfl rfl ) ?_
        refine wq rfl rfl rfl (ov_assign rfl rfl) ?_
        refine WL.nil (block_normal (then_normal ?_))
        exact ⟨l3, ao6, cap6, h18, hc11, (Sub.cons rfl (Sub.cons rfl (Sub.cons rfl (Sub.cons rfl (Sub.cons rfl (Sub.nil _)))))), fun w' s => s, hm⟩
     ·
      rintro g' S' ⟨l4, ao7, cap7, h19, hc12, hsub4, hS4, hm⟩
      refine WP.sub hsub4 (WP.weaken hS4 ?_)
      replace hm := (congrFun hk2 l4).symm.trans hm
      refine WP.region ?_
      refine wq rfl rfl rfl (ov_add rfl rfl rfl) ?_
      refine wq rfl rfl rfl (ov_move rfl rfl) ?_
      refine WL.nil (then_normal ?_)
      exact ⟨l4, ao7, cap7, (IntKind.wrap .i64 (i1 + 1)), h19, hc12, (Sub.cons rfl (Sub.cons rfl (Sub.cons rfl (Sub.cons rfl (Sub.cons rfl (Sub.nil _)))))), fun w' s => s, hm⟩
    ·
     replace hm := ite_f hc5 hm
     refine WP.exit (then_exit (then_exit (block_here (then_normal ?_))))
     exact ⟨l1, ao3, cap3, h3, hc4, (Sub.cons rfl (Sub.cons rfl (Sub.nil _))), fun w' s => s, hm⟩
  ·
   rintro g' S' ⟨l5, ao8, cap8, h20, hc13, hsub5, hS5, hm⟩
   refine WP.sub hsub5 (WP.weaken hS5 ?_)
   replace hm := (congrFun hk1 l5).symm.trans hm
   refine WP.seq (WP.region ?_)
   refine wq rfl rfl rfl (ov_move rfl rfl) ?_
   refine wq rfl rfl rfl (ov_len_slice Tryz.underlying25 rfl rfl) ?_
   refine wq rfl rfl rfl (ov_eql rfl rfl rfl) ?_
   refine wq rfl rfl rfl (ov_assign rfl rfl) ?_
   refine wq rfl rfl rfl (ov_assign rfl rfl) ?_
   refine WL.nil (then_normal (WP.ret ?_))
   obtain rfl := Option.some.inj hm
   refine retQ_ret Tryz.results13 (Res.tmp rfl (Res.tmp rfl Res.nil)) rfl (fun w' s => ⟨s.below, ?_⟩)
   exact rfl

end Go.Proofs.YtbhcojijafbdiaaGreatDoor.W
