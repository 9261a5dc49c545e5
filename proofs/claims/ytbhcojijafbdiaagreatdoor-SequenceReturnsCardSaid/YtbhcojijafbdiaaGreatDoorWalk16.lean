/- The walks. Written by our own program gen.py; Lean checks it. -/
import Derived.Test.YtbhcojijafbdiaaGreatDoorPlain
import Derived.Test.YtbhcojijafbdiaaGreatDoorEqs
import Derived.Test.YtbhcojijafbdiaaGreatDoorProg
import Derived.Test.YtbhcojijafbdiaaGreatDoorExt
import Derived.Test.YtbhcojijafbdiaaGreatDoorClone
import Derived.Test.YtbhcojijafbdiaaGreatDoorCloneS
import Derived.Test.YtbhcojijafbdiaaGreatDoorWalk3
import Derived.Test.YtbhcojijafbdiaaGreatDoorWalk4
import Derived.Test.YtbhcojijafbdiaaGreatDoorWalk5
import Derived.Test.YtbhcojijafbdiaaGreatDoorWalk6
import Derived.Test.YtbhcojijafbdiaaGreatDoorWalk7
import Derived.Test.YtbhcojijafbdiaaGreatDoorWalk9
set_option linter.unusedVariables false
set_option maxRecDepth 100000
set_option maxHeartbeats 4000000
namespace Go.Proofs.YtbhcojijafbdiaaGreatDoor.W
open Go Go.RowKit
theorem law14_SequenceReturns_con (p_s : Sequence) (ao1 : Option Addr) (cap1 : Nat) (w : World) (H : Heap) (hH : Le H (hp w)) (h1 : SL H encStep ao1 p_s.steps) (hc1 : p_s.steps.length ≤ cap1) (hG : Glob H) (r : Bool) (hm : law14_SequenceReturns p_s = some r) :
  Con Tryz.prog 8 [(.agg #[(.int .i64 p_s.actuators), (.slice ao1 p_s.steps.length cap1)])] w H (fun v _ => v = (.bool r)) := by
 unfold law14_SequenceReturns at hm
 refine con_of hH Tryz.func8 rfl 145 Tryz.ntmps8 rfl ?_
 refine WP.seq (WP.region ?_)
 refine WL.step (Runs.free rfl) rfl rfl (os_box (cs := [(.int .i64 p_s.actuators), (.slice ao1 p_s.steps.length cap1)]) rfl rfl rfl (fun b1 => ?_))
 refine wq rfl rfl rfl (ov_assign rfl rfl) ?_
 refine WL.nil (then_normal (WP.seq (WP.seq (WP.region ?_))))
 refine wq rfl rfl rfl (ov_load_whole (i := 0) Tryz.isAgg24 Tryz.sizeOf24 rfl rfl rfl rfl) ?_
 obtain ⟨r1, e1, hm⟩ := bind_some hm
 refine WL.quiet (Runs.free rfl) rfl rfl (oq_con (r := (.bool r1)) Tryz.call15 rfl rfl (fun w' s => ⟨_, (law14_right_con p_s ao1 cap1  w' H s.hold h1 hc1 hG r1 e1)⟩)) ?_
 refine wq rfl rfl rfl (ov_not rfl rfl) ?_
 refine WL.nil (then_normal ?_)
 refine WP.cond rfl (fun hc2 => ?_) (fun hc2 => ?_)
 ·
  replace hm := ite_t hc2 hm
  refine WP.seq (WP.region ?_)
  obtain ⟨r2, e2, hm⟩ := bind_some hm
  refine WL.quiet (Runs.free rfl) rfl rfl (oq_con (r := (.bool r2)) Tryz.call12 rfl rfl (fun w' s => ⟨_, (law14_awake_con   w' H s.hold hG r2 e2)⟩)) ?_
  refine wq rfl rfl rfl (ov_assign rfl rfl) ?_
  refine WL.nil (then_normal (WP.ret (then_ret ?_)))
  obtain rfl := Option.some.inj hm
  refine retQ_ret Tryz.results8 (Res.tmp rfl Res.nil) rfl (fun w' s => ⟨s.below, ?_⟩)
  exact rfl
 ·
  replace hm := ite_f hc2 hm
  refine WP.skip (then_normal (WP.seq (WP.region ?_)))
  refine wq rfl rfl rfl (ov_fieldAddr Tryz.underlying24 rfl rfl rfl Tryz.sizeOf3 rfl rfl) ?_
  refine wq rfl rfl rfl (ov_load_box (i := 0) Tryz.isAgg3 rfl rfl rfl rfl) ?_
  obtain ⟨u1, e3, hm⟩ := bind_some hm
  replace e3 := guardO_some e3
  refine WL.step (Runs.free rfl) rfl rfl (os_makeSlice (En := encBool) (z := (.bool false)) (y0 := false) (bytes := 1) Tryz.underlying47 (by kernel_rfl) rfl (by decide) rfl rfl rfl e3 (fun b2 xs1 rl1 => ?_))
  refine wq rfl rfl rfl (ov_assign rfl rfl) ?_
  refine WL.nil (then_normal ?_)
  obtain ⟨k1, hk1, hm⟩ := joinK_some hm
  refine WP.seq_join (fun g' S' => ∃ (H5 : Heap) (l2 : (List Bool)) (ao6 : Option Addr) (cap6 : Nat), Le H H5 ∧ SL H5 encBool ao6 l2 ∧ l2.length ≤ cap6 ∧ Sub [(1, (pB b1 0)), (3, (.slice ao6 l2.length cap6)), (1000000007, (.bool false))] g' ∧ (∀ w', S' w' → St w H [.blk b1 24 [(.int .i64 p_s.actuators), (.slice ao1 p_s.steps.length cap1)]] H5 w') ∧ k1 l2 = some r) ?_ ?_
  ·
   skip
   refine WP.seq (WP.region ?_)
   refine wq rfl rfl rfl (ov_fieldAddr Tryz.underlying24 rfl rfl rfl Tryz.sizeOf22 rfl rfl) ?_
   refine wq rfl rfl rfl (ov_load_box (i := 1) Tryz.isAgg22 rfl rfl rfl rfl) ?_
   refine wq rfl rfl rfl (ov_len_slice Tryz.underlying22 rfl rfl) ?_
   refine wq rfl rfl rfl (ov_move rfl rfl) ?_
   refine WL.nil (then_normal (WP.block ?_))
   refine WP.held rl1 (fun H1 hc3 hle1 h2 => ?_)
   replace h1 := h1.mono hle1
   replace hG := hG.mono hle1
   refine WP.loop (fun m1 g' S' => ∃ (H2 : Heap) (l1 : (List Bool)) (ao2 : Option Addr) (cap2 : Nat) (i1 : Int), Le H1 H2 ∧ SL H2 encBool ao2 l1 ∧ l1.length ≤ cap2 ∧ Sub [(1, (pB b1 0)), (3, (.slice ao2 l1.length cap2)), (27, (.slice ao1 p_s.steps.length cap1)), (28, (.int .i64 (p_s.steps.length : Int))), (29, (.int .i64 i1)), (1000000007, (.bool false))] g' ∧ (∀ w', S' w' → St w H [.blk b1 24 [(.int .i64 p_s.actuators), (.slice ao1 p_s.steps.length cap1)]] H2 w') ∧ law14_SequenceReturns_loop1 p_s k1 m1 l1 i1 = some r) ((Int.toNat ((p_s.steps.length : Int) - 0) + 1)) ⟨H1, (List.replicate (Int.toNat p_s.actuators) false), (some ⟨b2, 0, none⟩), (Int.toNat p_s.actuators), 0, (Le.refl _), h2, hc3, (Sub.cons rfl (Sub.cons rfl (Sub.cons rfl (Sub.cons rfl (Sub.cons rfl (Sub.cons rfl (Sub.nil _))))))), fun w' s => s, hm⟩ ?_ ?_
   ·
    rintro g' S' ⟨_, _, _, _, _, _, _, _, _, _, hm⟩
    exact none_some hm
   ·
    rintro m1 g' S' ⟨H2, l1, ao2, cap2, i1, hle2, h3, hc4, hsub1, hS1, hm⟩
    refine WP.sub hsub1 (WP.weaken hS1 ?_)
    rw [law14_SequenceReturns_loop1] at hm
    replace h1 := h1.mono hle2
    replace hG := hG.mono hle2
    refine WP.seq (WP.region ?_)
    refine wq rfl rfl rfl (ov_lss rfl rfl rfl) ?_
    refine WL.nil (then_normal (WP.seq ?_))
    refine WP.cond rfl (fun hc5 => ?_) (fun hc5 => ?_)
    ·
     replace hm := ite_t hc5 hm
     refine WP.skip (then_normal (WP.seq (WP.block (WP.seq (WP.region ?_)))))
     refine wq rfl rfl rfl (ov_move rfl rfl) ?_
     obtain ⟨x1, e4, hm⟩ := bind_some hm
     obtain ⟨h5, h6, h7, cs1, h8, h9⟩ := h1.get e4 (by decide)
     obtain ⟨ao3, cap3, rfl, h4, hc6⟩ := h8
     refine wq rfl rfl rfl (ov_indexAddr Tryz.underlying22 Tryz.sizeOf37 rfl rfl rfl h5 h6 h7) ?_
     refine wq rfl rfl rfl (ov_load_elems (vs := [(.slice ao3 x1.strokes.length cap3), (.int .i64 x1.wait)]) Tryz.isAgg37 Tryz.sizeOf37 rfl rfl rfl h9 h7) ?_
     refine WL.step (Runs.free rfl) rfl rfl (os_alloc (cs := [(.slice none 0 0), (.int .i64 0)]) Tryz.zeroValue37 rfl rfl (fun b3 => ?_))
     refine wq rfl rfl rfl (ov_assign rfl rfl) ?_
     refine WL.step0 (Runs.free rfl) rfl (os_store (i := 0) (vs := [(.slice ao3 x1.strokes.length cap3), (.int .i64 x1.wait)]) (cs' := [(.slice ao3 x1.strokes.length cap3), (.int .i64 x1.wait)]) Tryz.sizeOf37 rfl rfl rfl rfl rfl rfl rfl rfl rfl ?_)
     refine WL.nil (then_normal (WP.seq (WP.region ?_)))
     refine wq rfl rfl rfl (ov_load_whole (i := 1) Tryz.isAgg24 Tryz.sizeOf24 rfl rfl rfl rfl) ?_
     refine wq rfl rfl rfl (ov_move rfl rfl) ?_
     obtain ⟨r3, e5, hm⟩ := bind_some hm
     refine WL.step (Runs.free rfl) rfl rfl (os_con Tryz.call35 rfl rfl (fun w' s => (sequence_Ends_con p_s i1 ao1 cap1  w' H2 s.hold h1 hc1 hG r3 e5)) (fun rr1 H3 hle3 hR1 => ?_))
     replace h3 := h3.mono hle3
     replace h1 := h1.mono hle3
     replace h9 := h9.mono hle3
     replace h4 := h4.mono hle3
     replace hG := hG.mono hle3
     obtain ⟨ao4, cap4, rfl, h10, hc7⟩ := hR1
     refine wq rfl rfl rfl (ov_move rfl rfl) ?_
     refine wq rfl rfl rfl (ov_extract rfl rfl rfl) ?_
     refine wq rfl rfl rfl (ov_extract rfl rfl rfl) ?_
     refine wq rfl rfl rfl (ov_assign rfl rfl) ?_
     refine wq rfl rfl rfl (ov_assign rfl rfl) ?_
     refine WL.nil (then_normal (WP.seq (WP.region ?_)))
     refine wq rfl rfl rfl (ov_load_whole (i := 0) Tryz.isAgg37 Tryz.sizeOf37 rfl rfl rfl rfl) ?_
     refine wq rfl rfl rfl (ov_move rfl rfl) ?_
     obtain ⟨r4, e6, hm⟩ := bind_some hm
     refine WL.step (Runs.free rfl) rfl rfl (os_con Tryz.call42 rfl rfl (fun w' s => (stroke_Apply_con x1 l1 ao3 cap3 ao2 cap2  w' H3 s.hold h4 hc6 h3 hc4 hG r4 e6)) (fun rr2 H4 hle4 hR2 => ?_))
     replace h3 := h3.mono hle4
     replace h1 := h1.mono hle4
     replace h9 := h9.mono hle4
     replace h4 := h4.mono hle4
     replace h10 := h10.mono hle4
     replace hG := hG.mono hle4
     obtain ⟨ao5, cap5, rfl, h11, hc8⟩ := hR2
     refine wq rfl rfl rfl (ov_move rfl rfl) ?_
     refine wq rfl rfl rfl (ov_extract rfl rfl rfl) ?_
     refine wq rfl rfl rfl (ov_extract rfl rfl rfl) ?_
     refine wq rfl rfl rfl (ov_assign rfl rfl) ?_
     refine wq rfl rfl rfl (ov_assign rfl rfl) ?_
     refine WL.nil (then_normal (WP.seq (WP.seq (WP.region ?_))))
     refine wq rfl rfl rfl (ov_move rfl rfl) ?_
     refine wq rfl rfl rfl (ov_move rfl rfl) ?_
     refine wq rfl rfl rfl (ov_add rfl rfl rfl) ?_
     refine wq rfl rfl rfl (ov_neq rfl rfl rfl) ?_
     refine wq rfl rfl rfl (ov_move rfl rfl) ?_
     obtain ⟨c1, e7, hm⟩ := bind_some hm
     refine WL.cut_bool 5 55 (x := c1) ?_ ?_
     ·
      rcases Bool.eq_false_or_eq_true ((IntKind.wrap .i64 (r3.2 + r4.2)) != 0) with hc9 | hc9
      ·
       skip
       replace hm := ite_t hc9 e7
       refine WL.idle (Idle.no rfl rfl rfl hc9) rfl rfl ?_
       refine WL.idle (Idle.no rfl rfl rfl hc9) rfl rfl ?_
       refine WL.idle (Idle.no rfl rfl rfl hc9) rfl rfl ?_
       refine WL.idle (Idle.no rfl rfl rfl hc9) rfl rfl ?_
       refine wq rfl rfl rfl (ov_pick_true rfl (guard_eq rfl hc9) rfl) ?_
       exact WL.nil ⟨Sub.cons' rfl (congrArg Value.bool (Option.some.inj hm)) (Sub.skip rfl (Sub.skip rfl (Sub.skip rfl (Sub.skip rfl (Sub.skip rfl (Sub.refl _)))))), fun _ s => s⟩
      ·
       skip
       replace hm := ite_f hc9 e7
       refine WL.quiet (Runs.yes rfl rfl rfl hc9) rfl rfl (OV.quiet (ov_move rfl rfl)) ?_
       refine WL.quiet (Runs.yes rfl rfl rfl hc9) rfl rfl (OV.quiet (ov_move rfl rfl)) ?_
       obtain ⟨r5, e8, hm⟩ := bind_some hm
       refine WL.quiet (Runs.yes rfl rfl rfl hc9) rfl rfl (oq_con (r := (.bool r5)) Tryz.call39 rfl rfl (fun w' s => ⟨_, (slices_Equal_boolbool_con r3.1 l1 ao4 cap4 ao2 cap2  w' H4 s.hold h10 hc7 h3 hc4 hG r5 e8)⟩)) ?_
       refine WL.quiet (Runs.yes rfl rfl rfl hc9) rfl rfl (OV.quiet (ov_not rfl rfl)) ?_
       refine wq rfl rfl rfl (ov_pick_false rfl (guard_eq rfl hc9) rfl) ?_
       exact WL.nil ⟨Sub.cons' rfl (congrArg Value.bool (Option.some.inj hm)) (Sub.skip rfl (Sub.skip rfl (Sub.skip rfl (Sub.skip rfl (Sub.skip rfl (Sub.refl _)))))), fun _ s => s⟩
     refine WL.nil (then_normal ?_)
     refine WP.cond rfl (fun hc10 => ?_) (fun hc10 => ?_)
     ·
      replace hm := ite_t hc10 hm
      refine WP.seq (WP.region ?_)
      refine wq rfl rfl rfl (ov_assign rfl rfl) ?_
      refine WL.nil (then_normal (WP.ret (then_ret (block_ret (then_ret (then_ret (block_ret (then_ret ?_))))))))
      obtain rfl := Option.some.inj hm
      refine retQ_ret Tryz.results8 (Res.tmp rfl Res.nil) rfl (fun w' s => ⟨s.below, ?_⟩)
      exact rfl
     ·
      replace hm := ite_f hc10 hm
      refine WP.skip (then_normal (WP.region ?_))
      refine wq rfl rfl rfl (ov_move rfl rfl) ?_
      refine wq rfl rfl rfl (ov_assign rfl rfl) ?_
      refine WL.nil (block_normal (then_normal (WP.region ?_)))
      refine wq rfl rfl rfl (ov_add rfl rfl rfl) ?_
      refine wq rfl rfl rfl (ov_move rfl rfl) ?_
      refine WL.nil (then_normal ?_)
      exact ⟨H4, r4.1, ao5, cap5, (IntKind.wrap .i64 (i1 + 1)), ((hle2.trans hle3).trans hle4), h11, hc8, (Sub.cons rfl (Sub.cons rfl (Sub.cons rfl (Sub.cons rfl (Sub.cons rfl (Sub.cons rfl (Sub.nil _))))))), fun w' s => (s.select [1] (by decide) rfl), hm⟩
    ·
     replace hm := ite_f hc5 hm
     refine WP.exit (then_exit (then_exit (block_here (then_normal ?_))))
     exact ⟨H2, l1, ao2, cap2, (hle1.trans hle2), h3, hc4, (Sub.cons rfl (Sub.cons rfl (Sub.cons rfl (Sub.nil _)))), fun w' s => s, hm⟩
  ·
   rintro g' S' ⟨H5, l2, ao6, cap6, hle5, h12, hc11, hsub2, hS2, hm⟩
   refine WP.sub hsub2 (WP.weaken hS2 ?_)
   replace hm := (congrFun hk1 l2).symm.trans hm
   replace h1 := h1.mono hle5
   replace hG := hG.mono hle5
   refine WP.seq (WP.region ?_)
   refine wq rfl rfl rfl (ov_load_whole (i := 0) Tryz.isAgg24 Tryz.sizeOf24 rfl rfl rfl rfl) ?_
   refine wq rfl rfl rfl (ov_fieldAddr Tryz.underlying24 rfl rfl rfl Tryz.sizeOf22 rfl rfl) ?_
   refine wq rfl rfl rfl (ov_load_box (i := 0) Tryz.isAgg22 rfl rfl rfl rfl) ?_
   refine wq rfl rfl rfl (ov_len_slice Tryz.underlying22 rfl rfl) ?_
   obtain ⟨r6, e9, hm⟩ := bind_some hm
   refine WL.step (Runs.free rfl) rfl rfl (os_con Tryz.call35 rfl rfl (fun w' s => (sequence_Ends_con p_s (p_s.steps.length : Int) ao1 cap1  w' H5 s.hold h1 hc1 hG r6 e9)) (fun rr3 H6 hle6 hR3 => ?_))
   replace h12 := h12.mono hle6
   replace h1 := h1.mono hle6
   replace hG := hG.mono hle6
   obtain ⟨ao7, cap7, rfl, h13, hc12⟩ := hR3
   refine wq rfl rfl rfl (ov_move rfl rfl) ?_
   refine wq rfl rfl rfl (ov_extract rfl rfl rfl) ?_
   refine wq rfl rfl rfl (ov_extract rfl rfl rfl) ?_
   refine wq rfl rfl rfl (ov_assign rfl rfl) ?_
   refine wq rfl rfl rfl (ov_assign rfl rfl) ?_
   refine WL.nil (then_normal (WP.seq (WP.seq (WP.region ?_))))
   refine wq rfl rfl rfl (ov_move rfl rfl) ?_
   refine wq rfl rfl rfl (ov_neq rfl rfl rfl) ?_
   refine wq rfl rfl rfl (ov_move rfl rfl) ?_
   obtain ⟨c2, e10, hm⟩ := bind_some hm
   refine WL.cut_bool 5 73 (x := c2) ?_ ?_
   ·
    rcases Bool.eq_false_or_eq_true (r6.2 != 0) with hc13 | hc13
    ·
     skip
     replace hm := ite_t hc13 e10
     refine WL.idle (Idle.no rfl rfl rfl hc13) rfl rfl ?_
     refine WL.idle (Idle.no rfl rfl rfl hc13) rfl rfl ?_
     refine WL.idle (Idle.no rfl rfl rfl hc13) rfl rfl ?_
     refine WL.idle (Idle.no rfl rfl rfl hc13) rfl rfl ?_
     refine wq rfl rfl rfl (ov_pick_true rfl (guard_eq rfl hc13) rfl) ?_
     exact WL.nil ⟨Sub.cons' rfl (congrArg Value.bool (Option.some.inj hm)) (Sub.skip rfl (Sub.skip rfl (Sub.skip rfl (Sub.skip rfl (Sub.skip rfl (Sub.refl _)))))), fun _ s => s⟩
    ·
     skip
     replace hm := ite_f hc13 e10
     refine WL.quiet (Runs.yes rfl rfl rfl hc13) rfl rfl (OV.quiet (ov_move rfl rfl)) ?_
     refine WL.quiet (Runs.yes rfl rfl rfl hc13) rfl rfl (OV.quiet (ov_move rfl rfl)) ?_
     obtain ⟨r7, e11, hm⟩ := bind_some hm
     refine WL.quiet (Runs.yes rfl rfl rfl hc13) rfl rfl (oq_con (r := (.bool r7)) Tryz.call39 rfl rfl (fun w' s => ⟨_, (slices_Equal_boolbool_con r6.1 l2 ao7 cap7 ao6 cap6  w' H6 s.hold h13 hc12 h12 hc11 hG r7 e11)⟩)) ?_
     refine WL.quiet (Runs.yes rfl rfl rfl hc13) rfl rfl (OV.quiet (ov_not rfl rfl)) ?_
     refine wq rfl rfl rfl (ov_pick_false rfl (guard_eq rfl hc13) rfl) ?_
     exact WL.nil ⟨Sub.cons' rfl (congrArg Value.bool (Option.some.inj hm)) (Sub.skip rfl (Sub.skip rfl (Sub.skip rfl (Sub.skip rfl (Sub.skip rfl (Sub.refl _)))))), fun _ s => s⟩
   refine wq rfl rfl rfl (ov_move rfl rfl) ?_
   obtain ⟨c3, e12, hm⟩ := bind_some hm
   refine WL.cut_bool 3 77 (x := c3) ?_ ?_
   ·
    rcases Bool.eq_false_or_eq_true c2 with hc14 | hc14
    ·
     skip
     replace hm := ite_t hc14 e12
     refine WL.idle (Idle.no rfl rfl rfl hc14) rfl rfl ?_
     refine WL.idle (Idle.no rfl rfl rfl hc14) rfl rfl ?_
     refine wq rfl rfl rfl (ov_pick_true rfl (guard_eq rfl hc14) rfl) ?_
     exact WL.nil ⟨Sub.cons' rfl (congrArg Value.bool (Option.some.inj hm)) (Sub.skip rfl (Sub.skip rfl (Sub.skip rfl (Sub.refl _)))), fun _ s => s⟩
    ·
     skip
     replace hm := ite_f hc14 e12
     refine WL.quiet (Runs.yes rfl rfl rfl hc14) rfl rfl (OV.quiet (ov_move rfl rfl)) ?_
     obtain ⟨r8, e13, hm⟩ := bind_some hm
     refine WL.quiet (Runs.yes rfl rfl rfl hc14) rfl rfl (oq_con (r := (.bool r8)) Tryz.call43 rfl rfl (fun w' s => ⟨_, (slices_Contains_boolbool_con r6.1 true ao7 cap7  w' H6 s.hold h13 hc12 hG r8 e13)⟩)) ?_
     refine wq rfl rfl rfl (ov_pick_false rfl (guard_eq rfl hc14) rfl) ?_
     exact WL.nil ⟨Sub.cons' rfl (congrArg Value.bool (Option.some.inj hm)) (Sub.skip rfl (Sub.skip rfl (Sub.skip rfl (Sub.refl _)))), fun _ s => s⟩
   refine WL.nil (then_normal ?_)
   refine WP.cond rfl (fun hc15 => ?_) (fun hc15 => ?_)
   ·
    replace hm := ite_t hc15 hm
    refine WP.seq (WP.region ?_)
    refine wq rfl rfl rfl (ov_assign rfl rfl) ?_
    refine WL.nil (then_normal (WP.ret (then_ret ?_)))
    obtain rfl := Option.some.inj hm
    refine retQ_ret Tryz.results8 (Res.tmp rfl Res.nil) rfl (fun w' s => ⟨s.below, ?_⟩)
    exact rfl
   ·
    replace hm := ite_f hc15 hm
    refine WP.skip (then_normal ?_)
    obtain ⟨k2, hk2, hm⟩ := joinK_some hm
    refine WP.seq_join (fun g' S' => ∃ (H10 : Heap), Le H6 H10 ∧ Sub [(1000000007, (.bool false))] g' ∧ (∀ w', S' w' → St w H [] H10 w') ∧ k2 = some r) ?_ ?_
    ·
     skip
     refine WP.seq (WP.region ?_)
     refine wq rfl rfl rfl (ov_fieldAddr Tryz.underlying24 rfl rfl rfl Tryz.sizeOf3 rfl rfl) ?_
     refine wq rfl rfl rfl (ov_load_box (i := 0) Tryz.isAgg3 rfl rfl rfl rfl) ?_
     refine wq rfl rfl rfl (ov_move rfl rfl) ?_
     refine WL.nil (then_normal (WP.block ?_))
     refine WP.loop (fun m2 g' S' => ∃ (H7 : Heap) (i2 : Int), Le H6 H7 ∧ Sub [(1, (pB b1 0)), (79, (.int .i64 p_s.actuators)), (80, (.int .i64 i2)), (1000000007, (.bool false))] g' ∧ (∀ w', S' w' → St w H [.blk b1 24 [(.int .i64 p_s.actuators), (.slice ao1 p_s.steps.length cap1)]] H7 w') ∧ law14_SequenceReturns_loop2 p_s k2 m2 i2 = some r) ((Int.toNat (p_s.actuators - 0) + 1)) ⟨H6, 0, (Le.refl _), (Sub.cons rfl (Sub.cons rfl (Sub.cons rfl (Sub.cons rfl (Sub.nil _))))), fun w' s => s, hm⟩ ?_ ?_
     ·
      rintro g' S' ⟨_, _, _, _, _, hm⟩
      exact none_some hm
     ·
      rintro m2 g' S' ⟨H7, i2, hle7, hsub3, hS3, hm⟩
      refine WP.sub hsub3 (WP.weaken hS3 ?_)
      rw [law14_SequenceReturns_loop2] at hm
      replace h1 := h1.mono hle7
      replace hG := hG.mono hle7
      refine WP.seq (WP.region ?_)
      refine wq rfl rfl rfl (ov_lss rfl rfl rfl) ?_
      refine WL.nil (then_normal (WP.seq ?_))
      refine WP.cond rfl (fun hc16 => ?_) (fun hc16 => ?_)
      ·
       replace hm := ite_t hc16 hm
       refine WP.skip (then_normal ?_)
       obtain ⟨k3, hk3, hm⟩ := joinK_some hm
       refine WP.seq_join (fun g' S' => ∃ (H9 : Heap), Le H7 H9 ∧ Sub [(1, (pB b1 0)), (79, (.int .i64 p_s.actuators)), (80, (.int .i64 i2)), (1000000007, (.bool false))] g' ∧ (∀ w', S' w' → St w H [.blk b1 24 [(.int .i64 p_s.actuators), (.slice ao1 p_s.steps.length cap1)]] H9 w') ∧ k3 = some r) ?_ ?_
       ·
        skip
        refine WP.block (WP.seq (WP.region ?_))
        refine wq rfl rfl rfl (ov_move rfl rfl) ?_
        refine wq rfl rfl rfl (ov_assign rfl rfl) ?_
        refine WL.nil (then_normal (WP.seq (WP.region ?_)))
        refine wq rfl rfl rfl (ov_load_whole (i := 0) Tryz.isAgg24 Tryz.sizeOf24 rfl rfl rfl rfl) ?_
        refine wq rfl rfl rfl (ov_move rfl rfl) ?_
        obtain ⟨r9, e14, hm⟩ := bind_some hm
        refine WL.step (Runs.free rfl) rfl rfl (os_con Tryz.call37 rfl rfl (fun w' s => (sequence_Moves_con p_s i2 ao1 cap1  w' H7 s.hold h1 hc1 hG r9 e14)) (fun rr4 H8 hle8 hR4 => ?_))
        replace h1 := h1.mono hle8
        replace hG := hG.mono hle8
        obtain ⟨ao8, cap8, rfl, h14, hc17⟩ := hR4
        refine wq rfl rfl rfl (ov_move rfl rfl) ?_
        refine wq rfl rfl rfl (ov_extract rfl rfl rfl) ?_
        refine wq rfl rfl rfl (ov_extract rfl rfl rfl) ?_
        refine wq rfl rfl rfl (ov_assign rfl rfl) ?_
        refine wq rfl rfl rfl (ov_assign rfl rfl) ?_
        refine WL.nil (then_normal (WP.seq (WP.seq (WP.region ?_))))
        refine wq rfl rfl rfl (ov_move rfl rfl) ?_
        refine wq rfl rfl rfl (ov_neq rfl rfl rfl) ?_
        refine wq rfl rfl rfl (ov_move rfl rfl) ?_
        refine WL.cut_bool 4 95 (x := ((r9.2 != 0) || ((r9.1.length : Int) == 0))) ?_ ?_
        ·
         rcases Bool.eq_false_or_eq_true (r9.2 != 0) with hc18 | hc18
         ·
          skip
          refine WL.idle (Idle.no rfl rfl rfl hc18) rfl rfl ?_
          refine WL.idle (Idle.no rfl rfl rfl hc18) rfl rfl ?_
          refine WL.idle (Idle.no rfl rfl rfl hc18) rfl rfl ?_
          refine wq rfl rfl rfl (ov_pick_true rfl (guard_eq rfl hc18) rfl) ?_
          exact WL.nil ⟨Sub.cons' rfl (congrArg Value.bool (orT hc18)) (Sub.skip rfl (Sub.skip rfl (Sub.skip rfl (Sub.skip rfl (Sub.refl _))))), fun _ s => s⟩
         ·
          skip
          refine WL.quiet (Runs.yes rfl rfl rfl hc18) rfl rfl (OV.quiet (ov_move rfl rfl)) ?_
          refine WL.quiet (Runs.yes rfl rfl rfl hc18) rfl rfl (OV.quiet (ov_len_slice Tryz.underlying42 rfl rfl)) ?_
          refine WL.quiet (Runs.yes rfl rfl rfl hc18) rfl rfl (OV.quiet (ov_eql rfl rfl rfl)) ?_
          refine wq rfl rfl rfl (ov_pick_false rfl (guard_eq rfl hc18) rfl) ?_
          exact WL.nil ⟨Sub.cons' rfl (congrArg Value.bool (orF hc18)) (Sub.skip rfl (Sub.skip rfl (Sub.skip rfl (Sub.skip rfl (Sub.refl _))))), fun _ s => s⟩
        refine wq rfl rfl rfl (ov_move rfl rfl) ?_
        refine WL.cut_bool 5 101 (x := (((r9.2 != 0) || ((r9.1.length : Int) == 0)) || ((Int.tmod (r9.1.length : Int) 2) != 0))) ?_ ?_
        ·
         rcases Bool.eq_false_or_eq_true ((r9.2 != 0) || ((r9.1.length : Int) == 0)) with hc19 | hc19
         ·
          skip
          refine WL.idle (Idle.no rfl rfl rfl hc19) rfl rfl ?_
          refine WL.idle (Idle.no rfl rfl rfl hc19) rfl rfl ?_
          refine WL.idle (Idle.no rfl rfl rfl hc19) rfl rfl ?_
          refine WL.idle (Idle.no rfl rfl rfl hc19) rfl rfl ?_
          refine wq rfl rfl rfl (ov_pick_true rfl (guard_eq rfl hc19) rfl) ?_
          exact WL.nil ⟨Sub.cons' rfl (congrArg Value.bool (orT hc19)) (Sub.skip rfl (Sub.skip rfl (Sub.skip rfl (Sub.skip rfl (Sub.skip rfl (Sub.refl _)))))), fun _ s => s⟩
         ·
          skip
          refine WL.quiet (Runs.yes rfl rfl rfl hc19) rfl rfl (OV.quiet (ov_move rfl rfl)) ?_
          refine WL.quiet (Runs.yes rfl rfl rfl hc19) rfl rfl (OV.quiet (ov_len_slice Tryz.underlying42 rfl rfl)) ?_
          refine WL.quiet (Runs.yes rfl rfl rfl hc19) rfl rfl (OV.quiet (ov_rem rfl rfl rfl (by decide))) ?_
          refine WL.quiet (Runs.yes rfl rfl rfl hc19) rfl rfl (OV.quiet (ov_neq rfl rfl rfl)) ?_
          refine wq rfl rfl rfl (ov_pick_false rfl (guard_eq rfl hc19) rfl) ?_
          exact WL.nil ⟨Sub.cons' rfl (congrArg Value.bool (orF hc19)) (Sub.skip rfl (Sub.skip rfl (Sub.skip rfl (Sub.skip rfl (Sub.skip rfl (Sub.refl _)))))), fun _ s => s⟩
        refine WL.nil (then_normal ?_)
        refine WP.cond rfl (fun hc20 => ?_) (fun hc20 => ?_)
        ·
         replace hm := ite_t hc20 hm
         refine WP.seq (WP.region ?_)
         refine wq rfl rfl rfl (ov_assign rfl rfl) ?_
         refine WL.nil (then_normal (WP.ret (then_ret (block_ret (then_ret (then_ret (block_ret (then_ret ?_))))))))
         obtain rfl := Option.some.inj hm
         refine retQ_ret Tryz.results8 (Res.tmp rfl Res.nil) rfl (fun w' s => ⟨s.below, ?_⟩)
         exact rfl
        ·
         replace hm := ite_f hc20 hm
         refine WP.skip (then_normal (WP.seq (WP.region ?_)))
         refine wq rfl rfl rfl (ov_move rfl rfl) ?_
         refine wq rfl rfl rfl (ov_len_slice Tryz.underlying42 rfl rfl) ?_
         refine wq rfl rfl rfl (ov_move rfl rfl) ?_
         refine WL.nil (then_normal (WP.block ?_))
         refine WP.loop (fun m3 g' S' => ∃ (i3 : Int), Sub [(1, (pB b1 0)), (12, (.int .i64 i2)), (79, (.int .i64 p_s.actuators)), (80, (.int .i64 i2)), (102, (.slice ao8 r9.1.length cap8)), (103, (.int .i64 (r9.1.length : Int))), (104, (.int .i64 i3)), (1000000007, (.bool false))] g' ∧ (∀ w', S' w' → St w H [.blk b1 24 [(.int .i64 p_s.actuators), (.slice ao1 p_s.steps.length cap1)]] H8 w') ∧ law14_SequenceReturns_loop3 p_s i2 k3 r9 m3 i3 = some r) ((Int.toNat ((r9.1.length : Int) - 0) + 1)) ⟨0, (Sub.cons rfl (Sub.cons rfl (Sub.cons rfl (Sub.cons rfl (Sub.cons rfl (Sub.cons rfl (Sub.cons rfl (Sub.cons rfl (Sub.nil _))))))))), fun w' s => s, hm⟩ ?_ ?_
         ·
          rintro g' S' ⟨_, _, _, hm⟩
          exact none_some hm
         ·
          rintro m3 g' S' ⟨i3, hsub4, hS4, hm⟩
          refine WP.sub hsub4 (WP.weaken hS4 ?_)
          rw [law14_SequenceReturns_loop3] at hm
          refine WP.seq (WP.region ?_)
          refine wq rfl rfl rfl (ov_lss rfl rfl rfl) ?_
          refine WL.nil (then_normal (WP.seq ?_))
          refine WP.cond rfl (fun hc21 => ?_) (fun hc21 => ?_)
          ·
           replace hm := ite_t hc21 hm
           refine WP.skip (then_normal (WP.seq (WP.block (WP.seq (WP.region ?_)))))
           refine wq rfl rfl rfl (ov_move rfl rfl) ?_
           obtain ⟨x2, e15, hm⟩ := bind_some hm
           obtain ⟨h15, h16, h17, cs2, h18, h19⟩ := h14.get e15 (by decide)
           obtain rfl : cs2 = [(.int .i64 x2)] := h18
           refine wq rfl rfl rfl (ov_indexAddr Tryz.underlying42 Tryz.sizeOf3 rfl rfl rfl h15 h16 h17) ?_
           refine wq rfl rfl rfl (ov_load_elem (v := (.int .i64 x2)) Tryz.isAgg3 rfl rfl h19) ?_
           refine wq rfl rfl rfl (ov_assign rfl rfl) ?_
           refine wq rfl rfl rfl (ov_assign rfl rfl) ?_
           refine WL.nil (then_normal (WP.seq (WP.seq (WP.region ?_))))
           refine wq rfl rfl rfl (ov_move rfl rfl) ?_
           refine wq rfl rfl rfl (ov_lss rfl rfl rfl) ?_
           refine wq rfl rfl rfl (ov_move rfl rfl) ?_
           refine WL.cut_bool 6 117 (x := ((decide (x2 < 0)) || (decide (x2 ≥ (p_s.steps.length : Int))))) ?_ ?_
           ·
            rcases Bool.eq_false_or_eq_true (decide (x2 < 0)) with hc22 | hc22
            ·
             skip
             refine WL.idle (Idle.no rfl rfl rfl hc22) rfl rfl ?_
             refine WL.idle (Idle.no rfl rfl rfl hc22) rfl rfl ?_
             refine WL.idle (Idle.no rfl rfl rfl hc22) rfl rfl ?_
             refine WL.idle (Idle.no rfl rfl rfl hc22) rfl rfl ?_
             refine WL.idle (Idle.no rfl rfl rfl hc22) rfl rfl ?_
             refine wq rfl rfl rfl (ov_pick_true rfl (guard_eq rfl hc22) rfl) ?_
             exact WL.nil ⟨Sub.cons' rfl (congrArg Value.bool (orT hc22)) (Sub.skip rfl (Sub.skip rfl (Sub.skip rfl (Sub.skip rfl (Sub.skip rfl (Sub.skip rfl (Sub.refl _))))))), fun _ s => s⟩
            ·
             skip
             refine WL.quiet (Runs.yes rfl rfl rfl hc22) rfl rfl (OV.quiet (ov_move rfl rfl)) ?_
             refine WL.quiet (Runs.yes rfl rfl rfl hc22) rfl rfl (OV.quiet (ov_fieldAddr Tryz.underlying24 rfl rfl rfl Tryz.sizeOf22 rfl rfl)) ?_
             refine WL.quiet (Runs.yes rfl rfl rfl hc22) rfl rfl (OV.quiet (ov_load_box (i := 0) Tryz.isAgg22 rfl rfl rfl rfl)) ?_
             refine WL.quiet (Runs.yes rfl rfl rfl hc22) rfl rfl (OV.quiet (ov_len_slice Tryz.underlying22 rfl rfl)) ?_
             refine WL.quiet (Runs.yes rfl rfl rfl hc22) rfl rfl (OV.quiet (ov_geq rfl rfl rfl)) ?_
             refine wq rfl rfl rfl (ov_pick_false rfl (guard_eq rfl hc22) rfl) ?_
             exact WL.nil ⟨Sub.cons' rfl (congrArg Value.bool (orF hc22)) (Sub.skip rfl (Sub.skip rfl (Sub.skip rfl (Sub.skip rfl (Sub.skip rfl (Sub.skip rfl (Sub.refl _))))))), fun _ s => s⟩
           refine WL.nil (then_normal ?_)
           refine WP.cond rfl (fun hc23 => ?_) (fun hc23 => ?_)
           ·
            replace hm := ite_t hc23 hm
            refine WP.seq (WP.region ?_)
            refine wq rfl rfl rfl (ov_assign rfl rfl) ?_
            refine WL.nil (then_normal (WP.ret (then_ret (block_ret (then_ret (then_ret (block_ret (block_ret (then_ret (then_ret (block_ret (then_ret ?_))))))))))))
            obtain rfl := Option.some.inj hm
            refine retQ_ret Tryz.results8 (Res.tmp rfl Res.nil) rfl (fun w' s => ⟨s.below, ?_⟩)
            exact rfl
           ·
            replace hm := ite_f hc23 hm
            refine WP.skip (then_normal (WP.seq (WP.region ?_)))
            refine wq rfl rfl rfl (ov_fieldAddr Tryz.underlying24 rfl rfl rfl Tryz.sizeOf22 rfl rfl) ?_
            refine wq rfl rfl rfl (ov_load_box (i := 0) Tryz.isAgg22 rfl rfl rfl rfl) ?_
            refine wq rfl rfl rfl (ov_move rfl rfl) ?_
            obtain ⟨x3, e16, hm⟩ := bind_some hm
            obtain ⟨h21, h22, h23, cs3, h24, h25⟩ := h1.get e16 (by decide)
            obtain ⟨ao9, cap9, rfl, h20, hc24⟩ := h24
            refine wq rfl rfl rfl (ov_indexAddr Tryz.underlying22 Tryz.sizeOf37 rfl rfl rfl h21 h22 h23) ?_
            refine wq rfl rfl rfl (ov_load_elems (vs := [(.slice ao9 x3.strokes.length cap9), (.int .i64 x3.wait)]) Tryz.isAgg37 Tryz.sizeOf37 rfl rfl rfl h25 h23) ?_
            refine wq rfl rfl rfl (ov_move rfl rfl) ?_
            obtain ⟨r10, e17, hm⟩ := bind_some hm
            refine WL.quiet (Runs.free rfl) rfl rfl (oq_con (r := (.tuple #[(.int .i64 r10.1), (.int .i64 r10.2)])) Tryz.call44 rfl rfl (fun w' s => ⟨_, (stroke_Has_con x3 i2 ao9 cap9  w' H8 s.hold h20 hc24 hG r10 e17)⟩)) ?_
            refine wq rfl rfl rfl (ov_move rfl rfl) ?_
            refine wq rfl rfl rfl (ov_extract rfl rfl rfl) ?_
            refine wq rfl rfl rfl (ov_extract rfl rfl rfl) ?_
            refine wq rfl rfl rfl (ov_assign rfl rfl) ?_
            refine wq rfl rfl rfl (ov_assign rfl rfl) ?_
            refine WL.nil (then_normal (WP.seq (WP.region ?_)))
            refine wq rfl rfl rfl (ov_move rfl rfl) ?_
            refine wq rfl rfl rfl (ov_neq rfl rfl rfl) ?_
            refine wq rfl rfl rfl (ov_move rfl rfl) ?_
            refine WL.cut_bool 7 137 (x := ((r10.2 != 0) || (!((decide (r10.1 > 0)) == ((Int.tmod i3 2) == 0))))) ?_ ?_
            ·
             rcases Bool.eq_false_or_eq_true (r10.2 != 0) with hc25 | hc25
             ·
              skip
              refine WL.idle (Idle.no rfl rfl rfl hc25) rfl rfl ?_
              refine WL.idle (Idle.no rfl rfl rfl hc25) rfl rfl ?_
              refine WL.idle (Idle.no rfl rfl rfl hc25) rfl rfl ?_
              refine WL.idle (Idle.no rfl rfl rfl hc25) rfl rfl ?_
              refine WL.idle (Idle.no rfl rfl rfl hc25) rfl rfl ?_
              refine WL.idle (Idle.no rfl rfl rfl hc25) rfl rfl ?_
              refine wq rfl rfl rfl (ov_pick_true rfl (guard_eq rfl hc25) rfl) ?_
              exact WL.nil ⟨Sub.cons' rfl (congrArg Value.bool (orT hc25)) (Sub.skip rfl (Sub.skip rfl (Sub.skip rfl (Sub.skip rfl (Sub.skip rfl (Sub.skip rfl (Sub.skip rfl (Sub.refl _)))))))), fun _ s => s⟩
             ·
              skip
              refine WL.quiet (Runs.yes rfl rfl rfl hc25) rfl rfl (OV.quiet (ov_move rfl rfl)) ?_
              refine WL.quiet (Runs.yes rfl rfl rfl hc25) rfl rfl (OV.quiet (ov_gtr rfl rfl rfl)) ?_
              refine WL.quiet (Runs.yes rfl rfl rfl hc25) rfl rfl (OV.quiet (ov_move rfl rfl)) ?_
              refine WL.quiet (Runs.yes rfl rfl rfl hc25) rfl rfl (OV.quiet (ov_rem rfl rfl rfl (by decide))) ?_
              refine WL.quiet (Runs.yes rfl rfl rfl hc25) rfl rfl (OV.quiet (ov_eql rfl rfl rfl)) ?_
              refine WL.quiet (Runs.yes rfl rfl rfl hc25) rfl rfl (OV.quiet (ov_bneq Tryz.underlying4 rfl rfl rfl)) ?_
              refine wq rfl rfl rfl (ov_pick_false rfl (guard_eq rfl hc25) rfl) ?_
              exact WL.nil ⟨Sub.cons' rfl (congrArg Value.bool (orF hc25)) (Sub.skip rfl (Sub.skip rfl (Sub.skip rfl (Sub.skip rfl (Sub.skip rfl (Sub.skip rfl (Sub.skip rfl (Sub.refl _)))))))), fun _ s => s⟩
            refine wq rfl rfl rfl (ov_move rfl rfl) ?_
            refine WL.cut_bool 3 141 (x := (((r10.2 != 0) || (!((decide (r10.1 > 0)) == ((Int.tmod i3 2) == 0)))) || (r10.1 == 0))) ?_ ?_
            ·
             rcases Bool.eq_false_or_eq_true ((r10.2 != 0) || (!((decide (r10.1 > 0)) == ((Int.tmod i3 2) == 0)))) with hc26 | hc26
             ·
              skip
              refine WL.idle (Idle.no rfl rfl rfl hc26) rfl rfl ?_
              refine WL.idle (Idle.no rfl rfl rfl hc26) rfl rfl ?_
              refine wq rfl rfl rfl (ov_pick_true rfl (guard_eq rfl hc26) rfl) ?_
              exact WL.nil ⟨Sub.cons' rfl (congrArg Value.bool (orT hc26)) (Sub.skip rfl (Sub.skip rfl (Sub.skip rfl (Sub.refl _)))), fun _ s => s⟩
             ·
              skip
              refine WL.quiet (Runs.yes rfl rfl rfl hc26) rfl rfl (OV.quiet (ov_move rfl rfl)) ?_
              refine WL.quiet (Runs.yes rfl rfl rfl hc26) rfl rfl (OV.quiet (ov_eql rfl rfl rfl)) ?_
              refine wq rfl rfl rfl (ov_pick_false rfl (guard_eq rfl hc26) rfl) ?_
              exact WL.nil ⟨Sub.cons' rfl (congrArg Value.bool (orF hc26)) (Sub.skip rfl (Sub.skip rfl (Sub.skip rfl (Sub.refl _)))), fun _ s => s⟩
            refine WL.nil (then_normal ?_)
            refine WP.cond rfl (fun hc27 => ?_) (fun hc27 => ?_)
            ·
             replace hm := ite_t hc27 hm
             refine WP.seq (WP.region ?_)
             refine wq rfl rfl rfl (ov_assign rfl rfl) ?_
             refine WL.nil (then_normal (WP.ret (block_ret (then_ret (then_ret (block_ret (block_ret (then_ret (then_ret (block_ret (then_ret ?_)))))))))))
             obtain rfl := Option.some.inj hm
             refine retQ_ret Tryz.results8 (Res.tmp rfl Res.nil) rfl (fun w' s => ⟨s.below, ?_⟩)
             exact rfl
            ·
             replace hm := ite_f hc27 hm
             refine WP.skip (block_normal (then_normal (WP.region ?_)))
             refine wq rfl rfl rfl (ov_add rfl rfl rfl) ?_
             refine wq rfl rfl rfl (ov_move rfl rfl) ?_
             refine WL.nil (then_normal ?_)
             exact ⟨(IntKind.wrap .i64 (i3 + 1)), (Sub.cons rfl (Sub.cons rfl (Sub.cons rfl (Sub.cons rfl (Sub.cons rfl (Sub.cons rfl (Sub.cons rfl (Sub.cons rfl (Sub.nil _))))))))), fun w' s => s, hm⟩
          ·
           replace hm := ite_f hc21 hm
           refine WP.exit (then_exit (then_exit (block_here (block_normal (then_normal ?_)))))
           exact ⟨H8, hle8, (Sub.cons rfl (Sub.cons rfl (Sub.cons rfl (Sub.cons rfl (Sub.nil _))))), fun w' s => s, hm⟩
       ·
        rintro g' S' ⟨H9, hle9, hsub5, hS5, hm⟩
        refine WP.sub hsub5 (WP.weaken hS5 ?_)
        replace hm := hk3.symm.trans hm
        replace h1 := h1.mono hle9
        replace hG := hG.mono hle9
        refine WP.region ?_
        refine wq rfl rfl rfl (ov_add rfl rfl rfl) ?_
        refine wq rfl rfl rfl (ov_move rfl rfl) ?_
        refine WL.nil (then_normal ?_)
        exact ⟨H9, (IntKind.wrap .i64 (i2 + 1)), (hle7.trans hle9), (Sub.cons rfl (Sub.cons rfl (Sub.cons rfl (Sub.cons rfl (Sub.nil _))))), fun w' s => s, hm⟩
      ·
       replace hm := ite_f hc16 hm
       refine WP.exit (then_exit (then_exit (block_here (then_normal ?_))))
       exact ⟨H7, hle7, (Sub.cons rfl (Sub.nil _)), fun w' s => (s.select [] (by decide) rfl), hm⟩
    ·
     rintro g' S' ⟨H10, hle10, hsub6, hS6, hm⟩
     refine WP.sub hsub6 (WP.weaken hS6 ?_)
     replace hm := hk2.symm.trans hm
     replace hG := hG.mono hle10
     refine WP.seq (WP.region ?_)
     obtain ⟨r11, e18, hm⟩ := bind_some hm
     refine WL.quiet (Runs.free rfl) rfl rfl (oq_con (r := (.bool r11)) Tryz.call12 rfl rfl (fun w' s => ⟨_, (law14_awake_con   w' H10 s.hold hG r11 e18)⟩)) ?_
     refine wq rfl rfl rfl (ov_assign rfl rfl) ?_
     refine WL.nil (then_normal (WP.ret ?_))
     obtain rfl := Option.some.inj hm
     refine retQ_ret Tryz.results8 (Res.tmp rfl Res.nil) rfl (fun w' s => ⟨s.below, ?_⟩)
     exact rfl

end Go.Proofs.YtbhcojijafbdiaaGreatDoor.W
