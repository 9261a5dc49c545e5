/- The walks. Written by our own program gen.py; Lean checks it. -/
import Derived.Test.YtbhcojijafbdiaaGreatDoorPlain
import Derived.Test.YtbhcojijafbdiaaGreatDoorEqs
import Derived.Test.YtbhcojijafbdiaaGreatDoorProg
import Derived.Test.YtbhcojijafbdiaaGreatDoorExt
import Derived.Test.YtbhcojijafbdiaaGreatDoorClone
import Derived.Test.YtbhcojijafbdiaaGreatDoorCloneS
import Derived.Test.YtbhcojijafbdiaaGreatDoorWalk2
import Derived.Test.YtbhcojijafbdiaaGreatDoorWalk4
import Derived.Test.YtbhcojijafbdiaaGreatDoorWalk5
set_option linter.unusedVariables false
set_option maxRecDepth 100000
set_option maxHeartbeats 4000000
namespace Go.Proofs.YtbhcojijafbdiaaGreatDoor.W
open Go Go.RowKit
theorem ref14_steps_con (p_s : Sequence) (ao1 : Option Addr) (cap1 : Nat) (w : World) (H : Heap) (hH : Le H (hp w)) (h1 : SL H encStep ao1 p_s.steps) (hc1 : p_s.steps.length ≤ cap1) (hG : Glob H) (r : Int) (hm : ref14_steps p_s = some r) :
  Con Tryz.prog 61 [(.agg #[(.int .i64 p_s.actuators), (.slice ao1 p_s.steps.length cap1)])] w H (fun v _ => v = (.int .i64 r)) := by
 unfold ref14_steps at hm
 refine con_of hH Tryz.func61 rfl 62 Tryz.ntmps61 rfl ?_
 refine WP.seq (WP.region ?_)
 refine WL.step (Runs.free rfl) rfl rfl (os_box (cs := [(.int .i64 p_s.actuators), (.slice ao1 p_s.steps.length cap1)]) rfl rfl rfl (fun b1 => ?_))
 refine wq rfl rfl rfl (ov_assign rfl rfl) ?_
 refine WL.nil (then_normal (WP.seq (WP.region ?_)))
 refine wq rfl rfl rfl (ov_fieldAddr Tryz.underlying24 rfl rfl rfl Tryz.sizeOf3 rfl rfl) ?_
 refine wq rfl rfl rfl (ov_load_box (i := 0) Tryz.isAgg3 rfl rfl rfl rfl) ?_
 obtain ⟨u1, e1, hm⟩ := bind_some hm
 replace e1 := guardO_some e1
 refine WL.step (Runs.free rfl) rfl rfl (os_makeSlice (En := encBool) (z := (.bool false)) (y0 := false) (bytes := 1) Tryz.underlying47 (by kernel_rfl) rfl (by decide) rfl rfl rfl e1 (fun b2 xs1 rl1 => ?_))
 refine wq rfl rfl rfl (ov_assign rfl rfl) ?_
 refine WL.nil (then_normal ?_)
 obtain ⟨k1, hk1, hm⟩ := joinK_some hm
 refine WP.seq_join (fun g' S' => ∃ (H5 : Heap) (l3 : (List Bool)) (ao6 : Option Addr) (cap6 : Nat), Le H H5 ∧ SL H5 encBool ao6 l3 ∧ l3.length ≤ cap6 ∧ Sub [(1, (pB b1 0)), (3, (.slice ao6 l3.length cap6)), (1000000007, (.bool false))] g' ∧ (∀ w', S' w' → St w H [.blk b1 24 [(.int .i64 p_s.actuators), (.slice ao1 p_s.steps.length cap1)]] H5 w') ∧ k1 l3 = some r) ?_ ?_
 ·
  skip
  refine WP.seq (WP.region ?_)
  refine wq rfl rfl rfl (ov_assign rfl rfl) ?_
  refine WL.nil (then_normal (WP.block ?_))
  refine WP.held rl1 (fun H1 hc2 hle1 h2 => ?_)
  replace h1 := h1.mono hle1
  replace hG := hG.mono hle1
  refine WP.loop (fun m1 g' S' => ∃ (H2 : Heap) (l1 : (List Bool)) (ao2 : Option Addr) (cap2 : Nat) (i1 : Int), Le H1 H2 ∧ SL H2 encBool ao2 l1 ∧ l1.length ≤ cap2 ∧ Sub [(1, (pB b1 0)), (3, (.slice ao2 l1.length cap2)), (4, (.int .i64 i1)), (1000000007, (.bool false))] g' ∧ (∀ w', S' w' → St w H [.blk b1 24 [(.int .i64 p_s.actuators), (.slice ao1 p_s.steps.length cap1)]] H2 w') ∧ ref14_steps_loop1 p_s k1 m1 l1 i1 = some r) ((Int.toNat ((p_s.steps.length : Int) - 0) + 1)) ⟨H1, (List.replicate (Int.toNat p_s.actuators) false), (some ⟨b2, 0, none⟩), (Int.toNat p_s.actuators), 0, (Le.refl _), h2, hc2, (Sub.cons rfl (Sub.cons rfl (Sub.cons rfl (Sub.cons rfl (Sub.nil _))))), fun w' s => s, hm⟩ ?_ ?_
  ·
   rintro g' S' ⟨_, _, _, _, _, _, _, _, _, _, hm⟩
   exact none_some hm
  ·
   rintro m1 g' S' ⟨H2, l1, ao2, cap2, i1, hle2, h3, hc3, hsub1, hS1, hm⟩
   refine WP.sub hsub1 (WP.weaken hS1 ?_)
   rw [ref14_steps_loop1] at hm
   replace h1 := h1.mono hle2
   replace hG := hG.mono hle2
   refine WP.seq (WP.seq (WP.region ?_))
   refine wq rfl rfl rfl (ov_move rfl rfl) ?_
   refine wq rfl rfl rfl (ov_fieldAddr Tryz.underlying24 rfl rfl rfl Tryz.sizeOf22 rfl rfl) ?_
   refine wq rfl rfl rfl (ov_load_box (i := 0) Tryz.isAgg22 rfl rfl rfl rfl) ?_
   refine wq rfl rfl rfl (ov_len_slice Tryz.underlying22 rfl rfl) ?_
   refine wq rfl rfl rfl (ov_lss rfl rfl rfl) ?_
   refine WL.nil (then_normal ?_)
   refine WP.cond rfl (fun hc4 => ?_) (fun hc4 => ?_)
   ·
    replace hm := ite_t hc4 hm
    refine WP.skip (then_normal ?_)
    obtain ⟨k2, hk2, hm⟩ := joinK_some hm
    refine WP.seq_join (fun g' S' => ∃ (H4 : Heap) (l2 : (List Bool)) (ao5 : Option Addr) (cap5 : Nat), Le H2 H4 ∧ SL H4 encBool ao5 l2 ∧ l2.length ≤ cap5 ∧ Sub [(1, (pB b1 0)), (3, (.slice ao5 l2.length cap5)), (4, (.int .i64 i1)), (1000000007, (.bool false))] g' ∧ (∀ w', S' w' → St w H [.blk b1 24 [(.int .i64 p_s.actuators), (.slice ao1 p_s.steps.length cap1)]] H4 w') ∧ k2 l2 = some r) ?_ ?_
    ·
     skip
     refine WP.block (WP.seq (WP.region ?_))
     refine wq rfl rfl rfl (ov_fieldAddr Tryz.underlying24 rfl rfl rfl Tryz.sizeOf22 rfl rfl) ?_
     refine wq rfl rfl rfl (ov_load_box (i := 0) Tryz.isAgg22 rfl rfl rfl rfl) ?_
     refine wq rfl rfl rfl (ov_move rfl rfl) ?_
     obtain ⟨x1, e2, hm⟩ := bind_some hm
     obtain ⟨h5, h6, h7, cs1, h8, h9⟩ := h1.get e2 (by decide)
     obtain ⟨ao3, cap3, rfl, h4, hc5⟩ := h8
     refine wq rfl rfl rfl (ov_indexAddr Tryz.underlying22 Tryz.sizeOf37 rfl rfl rfl h5 h6 h7) ?_
     refine wq rfl rfl rfl (ov_load_elems (vs := [(.slice ao3 x1.strokes.length cap3), (.int .i64 x1.wait)]) Tryz.isAgg37 Tryz.sizeOf37 rfl rfl rfl h9 h7) ?_
     refine WL.step (Runs.free rfl) rfl rfl (os_alloc (cs := [(.slice none 0 0), (.int .i64 0)]) Tryz.zeroValue37 rfl rfl (fun b3 => ?_))
     refine WL.step0 (Runs.free rfl) rfl (os_store (i := 0) (vs := [(.slice ao3 x1.strokes.length cap3), (.int .i64 x1.wait)]) (cs' := [(.slice ao3 x1.strokes.length cap3), (.int .i64 x1.wait)]) Tryz.sizeOf37 rfl rfl rfl rfl rfl rfl rfl rfl rfl ?_)
     refine WL.nil (then_normal (WP.seq (WP.seq (WP.region ?_))))
     refine wq rfl rfl rfl (ov_load_whole (i := 0) Tryz.isAgg37 Tryz.sizeOf37 rfl rfl rfl rfl) ?_
     obtain ⟨r1, e3, hm⟩ := bind_some hm
     refine WL.quiet (Runs.free rfl) rfl rfl (oq_con (r := (.int .i64 r1)) Tryz.call85 rfl rfl (fun w' s => ⟨_, (ref13_CheckStep_con x1 ao3 cap3  w' H2 s.hold h4 hc5 hG r1 e3)⟩)) ?_
     refine wq rfl rfl rfl (ov_assign rfl rfl) ?_
     refine WL.nil (then_normal (WP.seq (WP.region ?_)))
     refine wq rfl rfl rfl (ov_move rfl rfl) ?_
     refine wq rfl rfl rfl (ov_neq rfl rfl rfl) ?_
     refine WL.nil (then_normal ?_)
     refine WP.cond rfl (fun hc6 => ?_) (fun hc6 => ?_)
     ·
      replace hm := ite_t hc6 hm
      refine WP.seq (WP.region ?_)
      refine wq rfl rfl rfl (ov_move rfl rfl) ?_
      refine wq rfl rfl rfl (ov_assign rfl rfl) ?_
      refine WL.nil (then_normal (WP.ret (then_ret (block_ret (then_ret (then_ret (block_ret (then_ret ?_))))))))
      obtain rfl := Option.some.inj hm
      refine retQ_ret Tryz.results61 (Res.tmp rfl Res.nil) rfl (fun w' s => ⟨s.below, ?_⟩)
      exact rfl
     ·
      replace hm := ite_f hc6 hm
      refine WP.skip (then_normal ?_)
      obtain ⟨k3, hk3, hm⟩ := joinK_some hm
      refine WP.seq_join (fun g' S' => Sub [(1, (pB b1 0)), (3, (.slice ao2 l1.length cap2)), (4, (.int .i64 i1)), (5, (pB b3 0)), (1000000007, (.bool false))] g' ∧ (∀ w', S' w' → St w H [.blk b3 37 [(.slice ao3 x1.strokes.length cap3), (.int .i64 x1.wait)], .blk b1 24 [(.int .i64 p_s.actuators), (.slice ao1 p_s.steps.length cap1)]] H2 w') ∧ k3 = some r) ?_ ?_
      ·
       skip
       refine WP.seq (WP.region ?_)
       refine wq rfl rfl rfl (ov_assign rfl rfl) ?_
       refine WL.nil (then_normal (WP.block ?_))
       refine WP.loop (fun m2 g' S' => ∃ (i2 : Int), Sub [(1, (pB b1 0)), (3, (.slice ao2 l1.length cap2)), (4, (.int .i64 i1)), (5, (pB b3 0)), (7, (.int .i64 i2)), (1000000007, (.bool false))] g' ∧ (∀ w', S' w' → St w H [.blk b3 37 [(.slice ao3 x1.strokes.length cap3), (.int .i64 x1.wait)], .blk b1 24 [(.int .i64 p_s.actuators), (.slice ao1 p_s.steps.length cap1)]] H2 w') ∧ ref14_steps_loop2 p_s x1 k3 m2 i2 = some r) ((Int.toNat ((x1.strokes.length : Int) - 0) + 1)) ⟨0, (Sub.cons rfl (Sub.cons rfl (Sub.cons rfl (Sub.cons rfl (Sub.cons rfl (Sub.cons rfl (Sub.nil _))))))), fun w' s => s, hm⟩ ?_ ?_
       ·
        rintro g' S' ⟨_, _, _, hm⟩
        exact none_some hm
       ·
        rintro m2 g' S' ⟨i2, hsub2, hS2, hm⟩
        refine WP.sub hsub2 (WP.weaken hS2 ?_)
        rw [ref14_steps_loop2] at hm
        refine WP.seq (WP.seq (WP.region ?_))
        refine wq rfl rfl rfl (ov_move rfl rfl) ?_
        refine wq rfl rfl rfl (ov_fieldAddr Tryz.underlying37 rfl rfl rfl Tryz.sizeOf25 rfl rfl) ?_
        refine wq rfl rfl rfl (ov_load_box (i := 0) Tryz.isAgg25 rfl rfl rfl rfl) ?_
        refine wq rfl rfl rfl (ov_len_slice Tryz.underlying25 rfl rfl) ?_
        refine wq rfl rfl rfl (ov_lss rfl rfl rfl) ?_
        refine WL.nil (then_normal ?_)
        refine WP.cond rfl (fun hc7 => ?_) (fun hc7 => ?_)
        ·
         replace hm := ite_t hc7 hm
         refine WP.skip (then_normal (WP.seq (WP.block (WP.seq ?_))))
         refine WP.region_draws (by kernel_rfl) (by kernel_rfl) (fun _ s => s.drew) ?_
         refine QL.quiet (Runs.free rfl) rfl rfl (OV.quiet (ov_fieldAddr Tryz.underlying37 rfl rfl rfl Tryz.sizeOf25 rfl rfl)) ?_
         refine QL.quiet (Runs.free rfl) rfl rfl (OV.quiet (ov_load_box (i := 0) Tryz.isAgg25 rfl rfl rfl rfl)) ?_
         refine QL.quiet (Runs.free rfl) rfl rfl (OV.quiet (ov_move rfl rfl)) ?_
         obtain ⟨x2, e4, hm⟩ := bind_some hm
         obtain ⟨h10, h11, h12, cs2, h13, h14⟩ := h4.get e4 (by decide)
         obtain rfl : cs2 = [(.int .i64 x2.actuator), (.bool x2.out)] := h13
         refine QL.quiet (Runs.free rfl) rfl rfl (OV.quiet (ov_indexAddr Tryz.underlying25 Tryz.sizeOf40 rfl rfl rfl h10 h11 h12)) ?_
         refine QL.quiet (Runs.free rfl) rfl rfl (OV.quiet (ov_fieldAddrE Tryz.underlying40 rfl rfl rfl Tryz.sizeOf3 rfl rfl)) ?_
         refine QL.quiet (Runs.free rfl) rfl rfl (OV.quiet (ov_load_elem (v := (.int .i64 x2.actuator)) Tryz.isAgg3 rfl rfl (h14.one (off := 0) rfl))) ?_
         refine QL.quiet (Runs.free rfl) rfl rfl (OV.quiet (ov_fieldAddr Tryz.underlying24 rfl rfl rfl Tryz.sizeOf3 rfl rfl)) ?_
         refine QL.quiet (Runs.free rfl) rfl rfl (OV.quiet (ov_load_box (i := 1) Tryz.isAgg3 rfl rfl rfl rfl)) ?_
         refine QL.quiet (Runs.free rfl) rfl rfl (OV.quiet (ov_geq rfl rfl rfl)) ?_
         refine QL.nil ?_
         refine then_normal ?_
         refine WP.cond rfl (fun hc8 => ?_) (fun hc8 => ?_)
         ·
          replace hm := ite_t hc8 hm
          refine WP.seq (WP.region ?_)
          refine wq rfl rfl rfl (ov_assign rfl rfl) ?_
          refine WL.nil (then_normal (WP.ret (block_ret (then_ret (then_ret (block_ret (then_ret (block_ret (then_ret (then_ret (block_ret (then_ret ?_))))))))))))
          obtain rfl := Option.some.inj hm
          refine retQ_ret Tryz.results61 (Res.tmp rfl Res.nil) rfl (fun w' s => ⟨s.below, ?_⟩)
          exact rfl
         ·
          replace hm := ite_f hc8 hm
          refine WP.skip (block_normal (then_normal (WP.region ?_)))
          refine wq rfl rfl rfl (ov_move rfl rfl) ?_
          refine wq rfl rfl rfl (ov_add rfl rfl rfl) ?_
          refine wq rfl rfl rfl (ov_assign rfl rfl) ?_
          refine WL.nil (then_normal ?_)
          exact ⟨(IntKind.wrap .i64 (i2 + 1)), (Sub.cons rfl (Sub.cons rfl (Sub.cons rfl (Sub.cons rfl (Sub.cons rfl (Sub.cons rfl (Sub.nil _))))))), fun w' s => s, hm⟩
        ·
         replace hm := ite_f hc7 hm
         refine WP.exit (then_exit (then_exit (block_here (then_normal ?_))))
         exact ⟨(Sub.cons rfl (Sub.cons rfl (Sub.cons rfl (Sub.cons rfl (Sub.cons rfl (Sub.nil _)))))), fun w' s => s, hm⟩
      ·
       rintro g' S' ⟨hsub3, hS3, hm⟩
       refine WP.sub hsub3 (WP.weaken hS3 ?_)
       replace hm := hk3.symm.trans hm
       refine WP.seq (WP.seq (WP.region ?_))
       refine wq rfl rfl rfl (ov_load_whole (i := 0) Tryz.isAgg37 Tryz.sizeOf37 rfl rfl rfl rfl) ?_
       refine wq rfl rfl rfl (ov_move rfl rfl) ?_
       obtain ⟨r2, e5, hm⟩ := bind_some hm
       refine WL.quiet (Runs.free rfl) rfl rfl (oq_con (r := (.bool r2)) Tryz.call86 rfl rfl (fun w' s => ⟨_, (ref13_Suits_con x1 l1 ao3 cap3 ao2 cap2  w' H2 s.hold h4 hc5 h3 hc3 hG r2 e5)⟩)) ?_
       refine wq rfl rfl rfl (ov_not rfl rfl) ?_
       refine WL.nil (then_normal ?_)
       refine WP.cond rfl (fun hc9 => ?_) (fun hc9 => ?_)
       ·
        replace hm := ite_t hc9 hm
        refine WP.seq (WP.region ?_)
        refine wq rfl rfl rfl (ov_assign rfl rfl) ?_
        refine WL.nil (then_normal (WP.ret (then_ret (block_ret (then_ret (then_ret (block_ret (then_ret ?_))))))))
        obtain rfl := Option.some.inj hm
        refine retQ_ret Tryz.results61 (Res.tmp rfl Res.nil) rfl (fun w' s => ⟨s.below, ?_⟩)
        exact rfl
       ·
        replace hm := ite_f hc9 hm
        refine WP.skip (then_normal (WP.region ?_))
        refine wq rfl rfl rfl (ov_load_whole (i := 0) Tryz.isAgg37 Tryz.sizeOf37 rfl rfl rfl rfl) ?_
        refine wq rfl rfl rfl (ov_move rfl rfl) ?_
        obtain ⟨r3, e6, hm⟩ := bind_some hm
        refine WL.step (Runs.free rfl) rfl rfl (os_con Tryz.call54 rfl rfl (fun w' s => (ref13_After_con x1 l1 ao3 cap3 ao2 cap2  w' H2 s.hold h4 hc5 h3 hc3 hG r3 e6)) (fun rr1 H3 hle3 hR1 => ?_))
        replace h3 := h3.mono hle3
        replace h4 := h4.mono hle3
        replace h1 := h1.mono hle3
        replace hG := hG.mono hle3
        obtain ⟨ao4, cap4, rfl, h15, hc10⟩ := hR1
        refine wq rfl rfl rfl (ov_assign rfl rfl) ?_
        refine WL.nil (block_normal (then_normal ?_))
        exact ⟨H3, r3, ao4, cap4, hle3, h15, hc10, (Sub.cons rfl (Sub.cons rfl (Sub.cons rfl (Sub.cons rfl (Sub.nil _))))), fun w' s => (s.select [1] (by decide) rfl), hm⟩
    ·
     rintro g' S' ⟨H4, l2, ao5, cap5, hle4, h16, hc11, hsub4, hS4, hm⟩
     refine WP.sub hsub4 (WP.weaken hS4 ?_)
     replace hm := (congrFun hk2 l2).symm.trans hm
     replace h1 := h1.mono hle4
     replace hG := hG.mono hle4
     refine WP.region ?_
     refine wq rfl rfl rfl (ov_move rfl rfl) ?_
     refine wq rfl rfl rfl (ov_add rfl rfl rfl) ?_
     refine wq rfl rfl rfl (ov_assign rfl rfl) ?_
     refine WL.nil (then_normal ?_)
     exact ⟨H4, l2, ao5, cap5, (IntKind.wrap .i64 (i1 + 1)), (hle2.trans hle4), h16, hc11, (Sub.cons rfl (Sub.cons rfl (Sub.cons rfl (Sub.cons rfl (Sub.nil _))))), fun w' s => s, hm⟩
   ·
    replace hm := ite_f hc4 hm
    refine WP.exit (then_exit (then_exit (block_here (then_normal ?_))))
    exact ⟨H2, l1, ao2, cap2, (hle1.trans hle2), h3, hc3, (Sub.cons rfl (Sub.cons rfl (Sub.cons rfl (Sub.nil _)))), fun w' s => s, hm⟩
 ·
  rintro g' S' ⟨H5, l3, ao6, cap6, hle5, h17, hc12, hsub5, hS5, hm⟩
  refine WP.sub hsub5 (WP.weaken hS5 ?_)
  replace hm := (congrFun hk1 l3).symm.trans hm
  replace h1 := h1.mono hle5
  replace hG := hG.mono hle5
  obtain ⟨k4, hk4, hm⟩ := joinK_some hm
  refine WP.seq_join (fun g' S' => Sub [(1000000007, (.bool false))] g' ∧ (∀ w', S' w' → St w H [] H5 w') ∧ k4 = some r) ?_ ?_
  ·
   skip
   refine WP.seq (WP.region ?_)
   refine wq rfl rfl rfl (ov_assign rfl rfl) ?_
   refine WL.nil (then_normal (WP.block ?_))
   refine WP.loop (fun m3 g' S' => ∃ (i3 : Int), Sub [(1, (pB b1 0)), (3, (.slice ao6 l3.length cap6)), (8, (.int .i64 i3)), (1000000007, (.bool false))] g' ∧ (∀ w', S' w' → St w H [.blk b1 24 [(.int .i64 p_s.actuators), (.slice ao1 p_s.steps.length cap1)]] H5 w') ∧ ref14_steps_loop3 p_s l3 k4 m3 i3 = some r) ((Int.toNat (p_s.actuators - 0) + 1)) ⟨0, (Sub.cons rfl (Sub.cons rfl (Sub.cons rfl (Sub.cons rfl (Sub.nil _))))), fun w' s => s, hm⟩ ?_ ?_
   ·
    rintro g' S' ⟨_, _, _, hm⟩
    exact none_some hm
   ·
    rintro m3 g' S' ⟨i3, hsub6, hS6, hm⟩
    refine WP.sub hsub6 (WP.weaken hS6 ?_)
    rw [ref14_steps_loop3] at hm
    refine WP.seq (WP.seq (WP.region ?_))
    refine wq rfl rfl rfl (ov_move rfl rfl) ?_
    refine wq rfl rfl rfl (ov_fieldAddr Tryz.underlying24 rfl rfl rfl Tryz.sizeOf3 rfl rfl) ?_
    refine wq rfl rfl rfl (ov_load_box (i := 0) Tryz.isAgg3 rfl rfl rfl rfl) ?_
    refine wq rfl rfl rfl (ov_lss rfl rfl rfl) ?_
    refine WL.nil (then_normal ?_)
    refine WP.cond rfl (fun hc13 => ?_) (fun hc13 => ?_)
    ·
     replace hm := ite_t hc13 hm
     refine WP.skip (then_normal (WP.seq (WP.block (WP.seq (WP.region ?_)))))
     refine wq rfl rfl rfl (ov_move rfl rfl) ?_
     refine wq rfl rfl rfl (ov_move rfl rfl) ?_
     obtain ⟨x3, e7, hm⟩ := bind_some hm
     obtain ⟨h18, h19, h20, cs3, h21, h22⟩ := h17.get e7 (by decide)
     obtain rfl : cs3 = [(.bool x3)] := h21
     refine wq rfl rfl rfl (ov_indexAddr Tryz.underlying47 Tryz.sizeOf4 rfl rfl rfl h18 h19 h20) ?_
     refine wq rfl rfl rfl (ov_load_elem (v := (.bool x3)) Tryz.isAgg4 rfl rfl h22) ?_
     refine WL.nil (then_normal ?_)
     refine WP.cond rfl (fun hc14 => ?_) (fun hc14 => ?_)
     ·
      replace hm := ite_t hc14 hm
      refine WP.seq (WP.region ?_)
      refine wq rfl rfl rfl (ov_assign rfl rfl) ?_
      refine WL.nil (then_normal (WP.ret (block_ret (then_ret (then_ret (block_ret (then_ret ?_)))))))
      obtain rfl := Option.some.inj hm
      refine retQ_ret Tryz.results61 (Res.tmp rfl Res.nil) rfl (fun w' s => ⟨s.below, ?_⟩)
      exact rfl
     ·
      replace hm := ite_f hc14 hm
      refine WP.skip (block_normal (then_normal (WP.region ?_)))
      refine wq rfl rfl rfl (ov_move rfl rfl) ?_
      refine wq rfl rfl rfl (ov_add rfl rfl rfl) ?_
      refine wq rfl rfl rfl (ov_assign rfl rfl) ?_
      refine WL.nil (then_normal ?_)
      exact ⟨(IntKind.wrap .i64 (i3 + 1)), (Sub.cons rfl (Sub.cons rfl (Sub.cons rfl (Sub.cons rfl (Sub.nil _))))), fun w' s => s, hm⟩
    ·
     replace hm := ite_f hc13 hm
     refine WP.exit (then_exit (then_exit (block_here (then_normal ?_))))
     exact ⟨(Sub.cons rfl (Sub.nil _)), fun w' s => (s.select [] (by decide) rfl), hm⟩
  ·
   rintro g' S' ⟨hsub7, hS7, hm⟩
   refine WP.sub hsub7 (WP.weaken hS7 ?_)
   replace hm := hk4.symm.trans hm
   refine WP.seq (WP.region ?_)
   refine wq rfl rfl rfl (ov_assign rfl rfl) ?_
   refine WL.nil (then_normal (WP.ret ?_))
   obtain rfl := Option.some.inj hm
   refine retQ_ret Tryz.results61 (Res.tmp rfl Res.nil) rfl (fun w' s => ⟨s.below, ?_⟩)
   exact rfl

theorem ref14_moves_con (p_s : Sequence) (p_actuator : Int) (ao1 : Option Addr) (cap1 : Nat) (w : World) (H : Heap) (hH : Le H (hp w)) (h1 : SL H encStep ao1 p_s.steps) (hc1 : p_s.steps.length ≤ cap1) (hG : Glob H) (r : Bool) (hm : ref14_moves p_s p_actuator = some r) :
  Con Tryz.prog 62 [(.agg #[(.int .i64 p_s.actuators), (.slice ao1 p_s.steps.length cap1)]), (.int .i64 p_actuator)] w H (fun v _ => v = (.bool r)) := by
 unfold ref14_moves at hm
 refine con_of hH Tryz.func62 rfl 21 Tryz.ntmps62 rfl ?_
 refine WP.seq (WP.region ?_)
 refine WL.step (Runs.free rfl) rfl rfl (os_box (cs := [(.int .i64 p_s.actuators), (.slice ao1 p_s.steps.length cap1)]) rfl rfl rfl (fun b1 => ?_))
 refine wq rfl rfl rfl (ov_assign rfl rfl) ?_
 refine WL.nil (then_normal ?_)
 obtain ⟨k1, hk1, hm⟩ := joinK_some hm
 refine WP.seq_join (fun g' S' => Sub [(1000000007, (.bool false))] g' ∧ (∀ w', S' w' → St w H [] H w') ∧ k1 = some r) ?_ ?_
 ·
  skip
  refine WP.seq (WP.region ?_)
  refine wq rfl rfl rfl (ov_assign rfl rfl) ?_
  refine WL.nil (then_normal (WP.block ?_))
  refine WP.loop (fun m1 g' S' => ∃ (i1 : Int), Sub [(1, (.int .i64 p_actuator)), (2, (pB b1 0)), (5, (.int .i64 i1)), (1000000007, (.bool false))] g' ∧ (∀ w', S' w' → St w H [.blk b1 24 [(.int .i64 p_s.actuators), (.slice ao1 p_s.steps.length cap1)]] H w') ∧ ref14_moves_loop1 p_s p_actuator k1 m1 i1 = some r) ((Int.toNat ((p_s.steps.length : Int) - 0) + 1)) ⟨0, (Sub.cons rfl (Sub.cons rfl (Sub.cons rfl (Sub.cons rfl (Sub.nil _))))), fun w' s => s, hm⟩ ?_ ?_
  ·
   rintro g' S' ⟨_, _, _, hm⟩
   exact none_some hm
  ·
   rintro m1 g' S' ⟨i1, hsub1, hS1, hm⟩
   refine WP.sub hsub1 (WP.weaken hS1 ?_)
   rw [ref14_moves_loop1] at hm
   refine WP.seq (WP.seq (WP.region ?_))
   refine wq rfl rfl rfl (ov_move rfl rfl) ?_
   refine wq rfl rfl rfl (ov_fieldAddr Tryz.underlying24 rfl rfl rfl Tryz.sizeOf22 rfl rfl) ?_
   refine wq rfl rfl rfl (ov_load_box (i := 0) Tryz.isAgg22 rfl rfl rfl rfl) ?_
   refine wq rfl rfl rfl (ov_len_slice Tryz.underlying22 rfl rfl) ?_
   refine wq rfl rfl rfl (ov_lss rfl rfl rfl) ?_
   refine WL.nil (then_normal ?_)
   refine WP.cond rfl (fun hc2 => ?_) (fun hc2 => ?_)
   ·
    replace hm := ite_t hc2 hm
    refine WP.skip (then_normal (WP.seq (WP.block (WP.seq (WP.region ?_)))))
    refine wq rfl rfl rfl (ov_fieldAddr Tryz.underlying24 rfl rfl rfl Tryz.sizeOf22 rfl rfl) ?_
    refine wq rfl rfl rfl (ov_load_box (i := 0) Tryz.isAgg22 rfl rfl rfl rfl) ?_
    refine wq rfl rfl rfl (ov_move rfl rfl) ?_
    obtain ⟨x1, e1, hm⟩ := bind_some hm
    obtain ⟨h3, h4, h5, cs1, h6, h7⟩ := h1.get e1 (by decide)
    obtain ⟨ao2, cap2, rfl, h2, hc3⟩ := h6
    refine wq rfl rfl rfl (ov_indexAddr Tryz.underlying22 Tryz.sizeOf37 rfl rfl rfl h3 h4 h5) ?_
    refine wq rfl rfl rfl (ov_load_elems (vs := [(.slice ao2 x1.strokes.length cap2), (.int .i64 x1.wait)]) Tryz.isAgg37 Tryz.sizeOf37 rfl rfl rfl h7 h5) ?_
    refine wq rfl rfl rfl (ov_move rfl rfl) ?_
    obtain ⟨r1, e2, hm⟩ := bind_some hm
    refine WL.quiet (Runs.free rfl) rfl rfl (oq_con (r := (.int .i64 r1)) Tryz.call87 rfl rfl (fun w' s => ⟨_, (ref13_Way_con x1 p_actuator ao2 cap2  w' H s.hold h2 hc3 hG r1 e2)⟩)) ?_
    refine wq rfl rfl rfl (ov_neq rfl rfl rfl) ?_
    refine WL.nil (then_normal ?_)
    refine WP.cond rfl (fun hc4 => ?_) (fun hc4 => ?_)
    ·
     replace hm := ite_t hc4 hm
     refine WP.seq (WP.region ?_)
     refine wq rfl rfl rfl (ov_assign rfl rfl) ?_
     refine WL.nil (then_normal (WP.ret (block_ret (then_ret (then_ret (block_ret (then_ret ?_)))))))
     obtain rfl := Option.some.inj hm
     refine retQ_ret Tryz.results62 (Res.tmp rfl Res.nil) rfl (fun w' s => ⟨s.below, ?_⟩)
     exact rfl
    ·
     replace hm := ite_f hc4 hm
     refine WP.skip (block_normal (then_normal (WP.region ?_)))
     refine wq rfl rfl rfl (ov_move rfl rfl) ?_
     refine wq rfl rfl rfl (ov_add rfl rfl rfl) ?_
     refine wq rfl rfl rfl (ov_assign rfl rfl) ?_
     refine WL.nil (then_normal ?_)
     exact ⟨(IntKind.wrap .i64 (i1 + 1)), (Sub.cons rfl (Sub.cons rfl (Sub.cons rfl (Sub.cons rfl (Sub.nil _))))), fun w' s => s, hm⟩
   ·
    replace hm := ite_f hc2 hm
    refine WP.exit (then_exit (then_exit (block_here (then_normal ?_))))
    exact ⟨(Sub.cons rfl (Sub.nil _)), fun w' s => (s.select [] (by decide) rfl), hm⟩
 ·
  rintro g' S' ⟨hsub2, hS2, hm⟩
  refine WP.sub hsub2 (WP.weaken hS2 ?_)
  replace hm := hk1.symm.trans hm
  refine WP.seq (WP.region ?_)
  refine wq rfl rfl rfl (ov_assign rfl rfl) ?_
  refine WL.nil (then_normal (WP.ret ?_))
  obtain rfl := Option.some.inj hm
  refine retQ_ret Tryz.results62 (Res.tmp rfl Res.nil) rfl (fun w' s => ⟨s.below, ?_⟩)
  exact rfl

theorem ref14_Check_con (p_s : Sequence) (ao1 : Option Addr) (cap1 : Nat) (w : World) (H : Heap) (hH : Le H (hp w)) (h1 : SL H encStep ao1 p_s.steps) (hc1 : p_s.steps.length ≤ cap1) (hG : Glob H) (r : Int) (hm : ref14_Check p_s = some r) :
  Con Tryz.prog 31 [(.agg #[(.int .i64 p_s.actuators), (.slice ao1 p_s.steps.length cap1)])] w H (fun v _ => v = (.int .i64 r)) := by
 unfold ref14_Check at hm
 refine con_of hH Tryz.func31 rfl 36 Tryz.ntmps31 rfl ?_
 refine WP.seq (WP.region ?_)
 refine WL.step (Runs.free rfl) rfl rfl (os_box (cs := [(.int .i64 p_s.actuators), (.slice ao1 p_s.steps.length cap1)]) rfl rfl rfl (fun b1 => ?_))
 refine wq rfl rfl rfl (ov_assign rfl rfl) ?_
 refine WL.nil (then_normal (WP.seq (WP.seq (WP.region ?_))))
 refine wq rfl rfl rfl (ov_fieldAddr Tryz.underlying24 rfl rfl rfl Tryz.sizeOf3 rfl rfl) ?_
 refine wq rfl rfl rfl (ov_load_box (i := 0) Tryz.isAgg3 rfl rfl rfl rfl) ?_
 refine wq rfl rfl rfl (ov_lss rfl rfl rfl) ?_
 refine wq rfl rfl rfl (ov_move rfl rfl) ?_
 refine WL.cut_bool 4 12 (x := ((decide (p_s.actuators < 1)) || (decide (p_s.actuators > 6)))) ?_ ?_
 ·
  rcases Bool.eq_false_or_eq_true (decide (p_s.actuators < 1)) with hc2 | hc2
  ·
   skip
   refine WL.idle (Idle.no rfl rfl rfl hc2) rfl rfl ?_
   refine WL.idle (Idle.no rfl rfl rfl hc2) rfl rfl ?_
   refine WL.idle (Idle.no rfl rfl rfl hc2) rfl rfl ?_
   refine wq rfl rfl rfl (ov_pick_true rfl (guard_eq rfl hc2) rfl) ?_
   exact WL.nil ⟨Sub.cons' rfl (congrArg Value.bool (orT hc2)) (Sub.skip rfl (Sub.skip rfl (Sub.skip rfl (Sub.skip rfl (Sub.refl _))))), fun _ s => s⟩
  ·
   skip
   refine WL.quiet (Runs.yes rfl rfl rfl hc2) rfl rfl (OV.quiet (ov_fieldAddr Tryz.underlying24 rfl rfl rfl Tryz.sizeOf3 rfl rfl)) ?_
   refine WL.quiet (Runs.yes rfl rfl rfl hc2) rfl rfl (OV.quiet (ov_load_box (i := 0) Tryz.isAgg3 rfl rfl rfl rfl)) ?_
   refine WL.quiet (Runs.yes rfl rfl rfl hc2) rfl rfl (OV.quiet (ov_gtr rfl rfl rfl)) ?_
   refine wq rfl rfl rfl (ov_pick_false rfl (guard_eq rfl hc2) rfl) ?_
   exact WL.nil ⟨Sub.cons' rfl (congrArg Value.bool (orF hc2)) (Sub.skip rfl (Sub.skip rfl (Sub.skip rfl (Sub.skip rfl (Sub.refl _))))), fun _ s => s⟩
 refine WL.nil (then_normal ?_)
 refine WP.cond rfl (fun hc3 => ?_) (fun hc3 => ?_)
 ·
  replace hm := ite_t hc3 hm
  refine WP.seq (WP.region ?_)
  refine wq rfl rfl rfl (ov_assign rfl rfl) ?_
  refine WL.nil (then_normal (WP.ret (then_ret ?_)))
  obtain rfl := Option.some.inj hm
  refine retQ_ret Tryz.results31 (Res.tmp rfl Res.nil) rfl (fun w' s => ⟨s.below, ?_⟩)
  exact rfl
 ·
  replace hm := ite_f hc3 hm
  refine WP.skip (then_normal (WP.seq (WP.seq (WP.region ?_))))
  refine wq rfl rfl rfl (ov_fieldAddr Tryz.underlying24 rfl rfl rfl Tryz.sizeOf22 rfl rfl) ?_
  refine wq rfl rfl rfl (ov_load_box (i := 0) Tryz.isAgg22 rfl rfl rfl rfl) ?_
  refine wq rfl rfl rfl (ov_len_slice Tryz.underlying22 rfl rfl) ?_
  refine wq rfl rfl rfl (ov_eql rfl rfl rfl) ?_
  refine WL.nil (then_normal ?_)
  refine WP.cond rfl (fun hc4 => ?_) (fun hc4 => ?_)
  ·
   replace hm := ite_t hc4 hm
   refine WP.seq (WP.region ?_)
   refine wq rfl rfl rfl (ov_assign rfl rfl) ?_
   refine WL.nil (then_normal (WP.ret (then_ret ?_)))
   obtain rfl := Option.some.inj hm
   refine retQ_ret Tryz.results31 (Res.tmp rfl Res.nil) rfl (fun w' s => ⟨s.below, ?_⟩)
   exact rfl
  ·
   replace hm := ite_f hc4 hm
   refine WP.skip (then_normal (WP.seq (WP.seq (WP.region ?_))))
   refine wq rfl rfl rfl (ov_fieldAddr Tryz.underlying24 rfl rfl rfl Tryz.sizeOf22 rfl rfl) ?_
   refine wq rfl rfl rfl (ov_load_box (i := 0) Tryz.isAgg22 rfl rfl rfl rfl) ?_
   refine wq rfl rfl rfl (ov_len_slice Tryz.underlying22 rfl rfl) ?_
   refine wq rfl rfl rfl (ov_gtr rfl rfl rfl) ?_
   refine WL.nil (then_normal ?_)
   refine WP.cond rfl (fun hc5 => ?_) (fun hc5 => ?_)
   ·
    replace hm := ite_t hc5 hm
    refine WP.seq (WP.region ?_)
    refine wq rfl rfl rfl (ov_assign rfl rfl) ?_
    refine WL.nil (then_normal (WP.ret (then_ret ?_)))
    obtain rfl := Option.some.inj hm
    refine retQ_ret Tryz.results31 (Res.tmp rfl Res.nil) rfl (fun w' s => ⟨s.below, ?_⟩)
    exact rfl
   ·
    replace hm := ite_f hc5 hm
    refine WP.skip (then_normal (WP.seq (WP.seq (WP.region ?_))))
    refine wq rfl rfl rfl (ov_load_whole (i := 0) Tryz.isAgg24 Tryz.sizeOf24 rfl rfl rfl rfl) ?_
    obtain ⟨r1, e1, hm⟩ := bind_some hm
    refine WL.quiet (Runs.free rfl) rfl rfl (oq_con (r := (.int .i64 r1)) Tryz.call61 rfl rfl (fun w' s => ⟨_, (ref14_steps_con p_s ao1 cap1  w' H s.hold h1 hc1 hG r1 e1)⟩)) ?_
    refine wq rfl rfl rfl (ov_assign rfl rfl) ?_
    refine WL.nil (then_normal (WP.seq (WP.region ?_)))
    refine wq rfl rfl rfl (ov_move rfl rfl) ?_
    refine wq rfl rfl rfl (ov_neq rfl rfl rfl) ?_
    refine WL.nil (then_normal ?_)
    refine WP.cond rfl (fun hc6 => ?_) (fun hc6 => ?_)
    ·
     replace hm := ite_t hc6 hm
     refine WP.seq (WP.region ?_)
     refine wq rfl rfl rfl (ov_move rfl rfl) ?_
     refine wq rfl rfl rfl (ov_assign rfl rfl) ?_
     refine WL.nil (then_normal (WP.ret (then_ret ?_)))
     obtain rfl := Option.some.inj hm
     refine retQ_ret Tryz.results31 (Res.tmp rfl Res.nil) rfl (fun w' s => ⟨s.below, ?_⟩)
     exact rfl
    ·
     replace hm := ite_f hc6 hm
     refine WP.skip (then_normal ?_)
     obtain ⟨k1, hk1, hm⟩ := joinK_some hm
     refine WP.seq_join (fun g' S' => Sub [(1000000007, (.bool false))] g' ∧ (∀ w', S' w' → St w H [] H w') ∧ k1 = some r) ?_ ?_
     ·
      skip
      refine WP.seq (WP.region ?_)
      refine wq rfl rfl rfl (ov_assign rfl rfl) ?_
      refine WL.nil (then_normal (WP.block ?_))
      refine WP.loop (fun m1 g' S' => ∃ (i1 : Int), Sub [(1, (pB b1 0)), (4, (.int .i64 i1)), (1000000007, (.bool false))] g' ∧ (∀ w', S' w' → St w H [.blk b1 24 [(.int .i64 p_s.actuators), (.slice ao1 p_s.steps.length cap1)]] H w') ∧ ref14_Check_loop1 p_s k1 m1 i1 = some r) ((Int.toNat (p_s.actuators - 0) + 1)) ⟨0, (Sub.cons rfl (Sub.cons rfl (Sub.cons rfl (Sub.nil _)))), fun w' s => s, hm⟩ ?_ ?_
      ·
       rintro g' S' ⟨_, _, _, hm⟩
       exact none_some hm
      ·
       rintro m1 g' S' ⟨i1, hsub1, hS1, hm⟩
       refine WP.sub hsub1 (WP.weaken hS1 ?_)
       rw [ref14_Check_loop1] at hm
       refine WP.seq (WP.seq (WP.region ?_))
       refine wq rfl rfl rfl (ov_move rfl rfl) ?_
       refine wq rfl rfl rfl (ov_fieldAddr Tryz.underlying24 rfl rfl rfl Tryz.sizeOf3 rfl rfl) ?_
       refine wq rfl rfl rfl (ov_load_box (i := 0) Tryz.isAgg3 rfl rfl rfl rfl) ?_
       refine wq rfl rfl rfl (ov_lss rfl rfl rfl) ?_
       refine WL.nil (then_normal ?_)
       refine WP.cond rfl (fun hc7 => ?_) (fun hc7 => ?_)
       ·
        replace hm := ite_t hc7 hm
        refine WP.skip (then_normal (WP.seq (WP.block (WP.seq (WP.region ?_)))))
        refine wq rfl rfl rfl (ov_load_whole (i := 0) Tryz.isAgg24 Tryz.sizeOf24 rfl rfl rfl rfl) ?_
        refine wq rfl rfl rfl (ov_move rfl rfl) ?_
        obtain ⟨r2, e2, hm⟩ := bind_some hm
        refine WL.quiet (Runs.free rfl) rfl rfl (oq_con (r := (.bool r2)) Tryz.call62 rfl rfl (fun w' s => ⟨_, (ref14_moves_con p_s i1 ao1 cap1  w' H s.hold h1 hc1 hG r2 e2)⟩)) ?_
        refine wq rfl rfl rfl (ov_not rfl rfl) ?_
        refine WL.nil (then_normal ?_)
        refine WP.cond rfl (fun hc8 => ?_) (fun hc8 => ?_)
        ·
         replace hm := ite_t hc8 hm
         refine WP.seq (WP.region ?_)
         refine wq rfl rfl rfl (ov_assign rfl rfl) ?_
         refine WL.nil (then_normal (WP.ret (block_ret (then_ret (then_ret (block_ret (then_ret ?_)))))))
         obtain rfl := Option.some.inj hm
         refine retQ_ret Tryz.results31 (Res.tmp rfl Res.nil) rfl (fun w' s => ⟨s.below, ?_⟩)
         exact rfl
        ·
         replace hm := ite_f hc8 hm
         refine WP.skip (block_normal (then_normal (WP.region ?_)))
         refine wq rfl rfl rfl (ov_move rfl rfl) ?_
         refine wq rfl rfl rfl (ov_add rfl rfl rfl) ?_
         refine wq rfl rfl rfl (ov_assign rfl rfl) ?_
         refine WL.nil (then_normal ?_)
         exact ⟨(IntKind.wrap .i64 (i1 + 1)), (Sub.cons rfl (Sub.cons rfl (Sub.cons rfl (Sub.nil _)))), fun w' s => s, hm⟩
       ·
        replace hm := ite_f hc7 hm
        refine WP.exit (then_exit (then_exit (block_here (then_normal ?_))))
        exact ⟨(Sub.cons rfl (Sub.nil _)), fun w' s => (s.select [] (by decide) rfl), hm⟩
     ·
      rintro g' S' ⟨hsub2, hS2, hm⟩
      refine WP.sub hsub2 (WP.weaken hS2 ?_)
      replace hm := hk1.symm.trans hm
      refine WP.seq (WP.region ?_)
      refine wq rfl rfl rfl (ov_assign rfl rfl) ?_
      refine WL.nil (then_normal (WP.ret ?_))
      obtain rfl := Option.some.inj hm
      refine retQ_ret Tryz.results31 (Res.tmp rfl Res.nil) rfl (fun w' s => ⟨s.below, ?_⟩)
      exact rfl

theorem ref14_count_con (p_l : (List Stroke)) (p_x : Stroke) (ao1 : Option Addr) (cap1 : Nat) (w : World) (H : Heap) (hH : Le H (hp w)) (h1 : SL H encStroke ao1 p_l) (hc1 : p_l.length ≤ cap1) (hG : Glob H) (r : Int) (hm : ref14_count p_l p_x = some r) :
  Con Tryz.prog 81 [(.slice ao1 p_l.length cap1), (.agg #[(.int .i64 p_x.actuator), (.bool p_x.out)])] w H (fun v _ => v = (.int .i64 r)) := by
 unfold ref14_count at hm
 refine con_of hH Tryz.func81 rfl 22 Tryz.ntmps81 rfl ?_
 refine WP.seq (WP.region ?_)
 refine WL.step (Runs.free rfl) rfl rfl (os_box (cs := [(.int .i64 p_x.actuator), (.bool p_x.out)]) rfl rfl rfl (fun b1 => ?_))
 refine wq rfl rfl rfl (ov_assign rfl rfl) ?_
 refine WL.nil (then_normal (WP.seq (WP.region ?_)))
 refine wq rfl rfl rfl (ov_assign rfl rfl) ?_
 refine WL.nil (then_normal ?_)
 obtain ⟨k1, hk1, hm⟩ := joinK_some hm
 refine WP.seq_join (fun g' S' => ∃ (i4 : Int), Sub [(5, (.int .i64 i4)), (1000000007, (.bool false))] g' ∧ (∀ w', S' w' → St w H [] H w') ∧ k1 i4 = some r) ?_ ?_
 ·
  skip
  refine WP.seq (WP.region ?_)
  refine wq rfl rfl rfl (ov_assign rfl rfl) ?_
  refine WL.nil (then_normal (WP.block ?_))
  refine WP.loop (fun m1 g' S' => ∃ (i1 : Int) (i2 : Int), Sub [(0, (.slice ao1 p_l.length cap1)), (3, (pB b1 0)), (5, (.int .i64 i1)), (6, (.int .i64 i2)), (1000000007, (.bool false))] g' ∧ (∀ w', S' w' → St w H [.blk b1 40 [(.int .i64 p_x.actuator), (.bool p_x.out)]] H w') ∧ ref14_count_loop1 p_l p_x k1 m1 i1 i2 = some r) ((Int.toNat ((p_l.length : Int) - 0) + 1)) ⟨0, 0, (Sub.cons rfl (Sub.cons rfl (Sub.cons rfl (Sub.cons rfl (Sub.cons rfl (Sub.nil _)))))), fun w' s => s, hm⟩ ?_ ?_
  ·
   rintro g' S' ⟨_, _, _, _, hm⟩
   exact none_some hm
  ·
   rintro m1 g' S' ⟨i1, i2, hsub1, hS1, hm⟩
   refine WP.sub hsub1 (WP.weaken hS1 ?_)
   rw [ref14_count_loop1] at hm
   refine WP.seq (WP.seq (WP.region ?_))
   refine wq rfl rfl rfl (ov_move rfl rfl) ?_
   refine wq rfl rfl rfl (ov_move rfl rfl) ?_
   refine wq rfl rfl rfl (ov_len_slice Tryz.underlying25 rfl rfl) ?_
   refine wq rfl rfl rfl (ov_lss rfl rfl rfl) ?_
   refine WL.nil (then_normal ?_)
   refine WP.cond rfl (fun hc2 => ?_) (fun hc2 => ?_)
   ·
    replace hm := ite_t hc2 hm
    refine WP.skip (then_normal ?_)
    obtain ⟨k2, hk2, hm⟩ := joinK_some hm
    refine WP.seq_join (fun g' S' => ∃ (i3 : Int), Sub [(0, (.slice ao1 p_l.length cap1)), (3, (pB b1 0)), (5, (.int .i64 i3)), (6, (.int .i64 i2)), (1000000007, (.bool false))] g' ∧ (∀ w', S' w' → St w H [.blk b1 40 [(.int .i64 p_x.actuator), (.bool p_x.out)]] H w') ∧ k2 i3 = some r) ?_ ?_
    ·
     skip
     refine WP.block (WP.seq ?_)
     refine WP.region_draws (by kernel_rfl) (by kernel_rfl) (fun _ s => s.drew) ?_
     refine QL.quiet (Runs.free rfl) rfl rfl (OV.quiet (ov_move rfl rfl)) ?_
     refine QL.quiet (Runs.free rfl) rfl rfl (OV.quiet (ov_move rfl rfl)) ?_
     obtain ⟨x1, e1, hm⟩ := bind_some hm
     obtain ⟨h2, h3, h4, cs1, h5, h6⟩ := h1.get e1 (by decide)
     obtain rfl : cs1 = [(.int .i64 x1.actuator), (.bool x1.out)] := h5
     refine QL.quiet (Runs.free rfl) rfl rfl (OV.quiet (ov_indexAddr Tryz.underlying25 Tryz.sizeOf40 rfl rfl rfl h2 h3 h4)) ?_
     refine QL.quiet (Runs.free rfl) rfl rfl (OV.quiet (ov_load_elems (vs := [(.int .i64 x1.actuator), (.bool x1.out)]) Tryz.isAgg40 Tryz.sizeOf40 rfl rfl rfl h6 h4)) ?_
     refine QL.quiet (Runs.free rfl) rfl rfl (OV.quiet (ov_load_whole (i := 0) Tryz.isAgg40 Tryz.sizeOf40 rfl rfl rfl rfl)) ?_
     refine QL.quiet (Runs.free rfl) rfl rfl (OV.quiet (eql_struct40 (a := x1) (b := p_x) rfl rfl rfl)) ?_
     refine QL.nil ?_
     refine then_normal ?_
     refine WP.cond rfl (fun hc3 => ?_) (fun hc3 => ?_)
     ·
      replace hm := ite_t hc3 hm
      refine WP.region ?_
      refine wq rfl rfl rfl (ov_move rfl rfl) ?_
      refine wq rfl rfl rfl (ov_add rfl rfl rfl) ?_
      refine wq rfl rfl rfl (ov_assign rfl rfl) ?_
      refine WL.nil (block_normal (then_normal ?_))
      exact ⟨(IntKind.wrap .i64 (i1 + 1)), (Sub.cons rfl (Sub.cons rfl (Sub.cons rfl (Sub.cons rfl (Sub.cons rfl (Sub.nil _)))))), fun w' s => s, hm⟩
     ·
      replace hm := ite_f hc3 hm
      refine WP.skip (block_normal (then_normal ?_))
      exact ⟨i1, (Sub.cons rfl (Sub.cons rfl (Sub.cons rfl (Sub.cons rfl (Sub.cons rfl (Sub.nil _)))))), fun w' s => s, hm⟩
    ·
     rintro g' S' ⟨i3, hsub2, hS2, hm⟩
     refine WP.sub hsub2 (WP.weaken hS2 ?_)
     replace hm := (congrFun hk2 i3).symm.trans hm
     refine WP.region ?_
     refine wq rfl rfl rfl (ov_move rfl rfl) ?_
     refine wq rfl rfl rfl (ov_add rfl rfl rfl) ?_
     refine wq rfl rfl rfl (ov_assign rfl rfl) ?_
     refine WL.nil (then_normal ?_)
     exact ⟨i3, (IntKind.wrap .i64 (i2 + 1)), (Sub.cons rfl (Sub.cons rfl (Sub.cons rfl (Sub.cons rfl (Sub.cons rfl (Sub.nil _)))))), fun w' s => s, hm⟩
   ·
    replace hm := ite_f hc2 hm
    refine WP.exit (then_exit (then_exit (block_here (then_normal ?_))))
    exact ⟨i1, (Sub.cons rfl (Sub.cons rfl (Sub.nil _))), fun w' s => (s.select [] (by decide) rfl), hm⟩
 ·
  rintro g' S' ⟨i4, hsub3, hS3, hm⟩
  refine WP.sub hsub3 (WP.weaken hS3 ?_)
  replace hm := (congrFun hk1 i4).symm.trans hm
  refine WP.seq (WP.region ?_)
  refine wq rfl rfl rfl (ov_move rfl rfl) ?_
  refine wq rfl rfl rfl (ov_assign rfl rfl) ?_
  refine WL.nil (then_normal (WP.ret ?_))
  obtain rfl := Option.some.inj hm
  refine retQ_ret Tryz.results81 (Res.tmp rfl Res.nil) rfl (fun w' s => ⟨s.below, ?_⟩)
  exact rfl

theorem ref14_Takes_con (p_s : Sequence) (p_word : (List Stroke)) (ao1 : Option Addr) (cap1 : Nat) (ao2 : Option Addr) (cap2 : Nat) (w : World) (H : Heap) (hH : Le H (hp w)) (h1 : SL H encStep ao1 p_s.steps) (hc1 : p_s.steps.length ≤ cap1) (h2 : SL H encStroke ao2 p_word) (hc2 : p_word.length ≤ cap2) (hG : Glob H) (r : Bool) (hm : ref14_Takes p_s p_word = some r) :
  Con Tryz.prog 50 [(.agg #[(.int .i64 p_s.actuators), (.slice ao1 p_s.steps.length cap1)]), (.slice ao2 p_word.length cap2)] w H (fun v _ => v = (.bool r)) := by
 unfold ref14_Takes at hm
 refine con_of hH Tryz.func50 rfl 56 Tryz.ntmps50 rfl ?_
 refine WP.seq (WP.region ?_)
 refine WL.step (Runs.free rfl) rfl rfl (os_box (cs := [(.int .i64 p_s.actuators), (.slice ao1 p_s.steps.length cap1)]) rfl rfl rfl (fun b1 => ?_))
 refine wq rfl rfl rfl (ov_assign rfl rfl) ?_
 refine WL.nil (then_normal (WP.seq (WP.region ?_)))
 refine wq rfl rfl rfl (ov_assign rfl rfl) ?_
 refine WL.nil (then_normal ?_)
 obtain ⟨k1, hk1, hm⟩ := joinK_some hm
 refine WP.seq_join (fun g' S' => ∃ (i5 : Int), Sub [(1, (.slice ao2 p_word.length cap2)), (5, (.int .i64 i5)), (1000000007, (.bool false))] g' ∧ (∀ w', S' w' → St w H [] H w') ∧ k1 i5 = some r) ?_ ?_
 ·
  skip
  refine WP.seq (WP.region ?_)
  refine wq rfl rfl rfl (ov_assign rfl rfl) ?_
  refine WL.nil (then_normal (WP.block ?_))
  refine WP.loop (fun m1 g' S' => ∃ (i1 : Int) (i2 : Int), Sub [(1, (.slice ao2 p_word.length cap2)), (2, (pB b1 0)), (5, (.int .i64 i1)), (6, (.int .i64 i2)), (1000000007, (.bool false))] g' ∧ (∀ w', S' w' → St w H [.blk b1 24 [(.int .i64 p_s.actuators), (.slice ao1 p_s.steps.length cap1)]] H w') ∧ ref14_Takes_loop1 p_s p_word k1 m1 i1 i2 = some r) ((Int.toNat ((p_s.steps.length : Int) - 0) + 1)) ⟨0, 0, (Sub.cons rfl (Sub.cons rfl (Sub.cons rfl (Sub.cons rfl (Sub.cons rfl (Sub.nil _)))))), fun w' s => s, hm⟩ ?_ ?_
  ·
   rintro g' S' ⟨_, _, _, _, hm⟩
   exact none_some hm
  ·
   rintro m1 g' S' ⟨i1, i2, hsub1, hS1, hm⟩
   refine WP.sub hsub1 (WP.weaken hS1 ?_)
   rw [ref14_Takes_loop1] at hm
   refine WP.seq (WP.seq (WP.region ?_))
   refine wq rfl rfl rfl (ov_move rfl rfl) ?_
   refine wq rfl rfl rfl (ov_fieldAddr Tryz.underlying24 rfl rfl rfl Tryz.sizeOf22 rfl rfl) ?_
   refine wq rfl rfl rfl (ov_load_box (i := 0) Tryz.isAgg22 rfl rfl rfl rfl) ?_
   refine wq rfl rfl rfl (ov_len_slice Tryz.underlying22 rfl rfl) ?_
   refine wq rfl rfl rfl (ov_lss rfl rfl rfl) ?_
   refine WL.nil (then_normal ?_)
   refine WP.cond rfl (fun hc3 => ?_) (fun hc3 => ?_)
   ·
    replace hm := ite_t hc3 hm
    refine WP.skip (then_normal ?_)
    obtain ⟨k2, hk2, hm⟩ := joinK_some hm
    refine WP.seq_join (fun g' S' => ∃ (i4 : Int), Sub [(1, (.slice ao2 p_word.length cap2)), (2, (pB b1 0)), (5, (.int .i64 i4)), (6, (.int .i64 i2)), (1000000007, (.bool false))] g' ∧ (∀ w', S' w' → St w H [.blk b1 24 [(.int .i64 p_s.actuators), (.slice ao1 p_s.steps.length cap1)]] H w') ∧ k2 i4 = some r) ?_ ?_
    ·
     skip
     refine WP.block (WP.seq (WP.region ?_))
     refine wq rfl rfl rfl (ov_fieldAddr Tryz.underlying24 rfl rfl rfl Tryz.sizeOf22 rfl rfl) ?_
     refine wq rfl rfl rfl (ov_load_box (i := 0) Tryz.isAgg22 rfl rfl rfl rfl) ?_
     refine wq rfl rfl rfl (ov_move rfl rfl) ?_
     obtain ⟨x1, e1, hm⟩ := bind_some hm
     obtain ⟨h4, h5, h6, cs1, h7, h8⟩ := h1.get e1 (by decide)
     obtain ⟨ao3, cap3, rfl, h3, hc4⟩ := h7
     refine wq rfl rfl rfl (ov_indexAddr Tryz.underlying22 Tryz.sizeOf37 rfl rfl rfl h4 h5 h6) ?_
     refine wq rfl rfl rfl (ov_fieldAddrE Tryz.underlying37 rfl rfl rfl Tryz.sizeOf25 rfl rfl) ?_
     refine wq rfl rfl rfl (ov_load_elem (v := (.slice ao3 x1.strokes.length cap3)) Tryz.isAgg25 rfl rfl (h8.one (off := 0) rfl)) ?_
     refine wq rfl rfl rfl (ov_assign rfl rfl) ?_
     refine WL.nil (then_normal (WP.seq (WP.seq (WP.region ?_))))
     refine wq rfl rfl rfl (ov_move rfl rfl) ?_
     refine wq rfl rfl rfl (ov_move rfl rfl) ?_
     refine wq rfl rfl rfl (ov_len_slice Tryz.underlying25 rfl rfl) ?_
     refine wq rfl rfl rfl (ov_add rfl rfl rfl) ?_
     refine wq rfl rfl rfl (ov_move rfl rfl) ?_
     refine wq rfl rfl rfl (ov_len_slice Tryz.underlying25 rfl rfl) ?_
     refine wq rfl rfl rfl (ov_gtr rfl rfl rfl) ?_
     refine WL.nil (then_normal ?_)
     refine WP.cond rfl (fun hc5 => ?_) (fun hc5 => ?_)
     ·
      replace hm := ite_t hc5 hm
      refine WP.seq (WP.region ?_)
      refine wq rfl rfl rfl (ov_assign rfl rfl) ?_
      refine WL.nil (then_normal (WP.ret (then_ret (block_ret (then_ret (then_ret (block_ret (then_ret ?_))))))))
      obtain rfl := Option.some.inj hm
      refine retQ_ret Tryz.results50 (Res.tmp rfl Res.nil) rfl (fun w' s => ⟨s.below, ?_⟩)
      exact rfl
     ·
      replace hm := ite_f hc5 hm
      refine WP.skip (then_normal ?_)
      obtain ⟨k3, hk3, hm⟩ := joinK_some hm
      refine WP.seq_join (fun g' S' => Sub [(1, (.slice ao2 p_word.length cap2)), (2, (pB b1 0)), (5, (.int .i64 i1)), (6, (.int .i64 i2)), (7, (.slice ao3 x1.strokes.length cap3)), (1000000007, (.bool false))] g' ∧ (∀ w', S' w' → St w H [.blk b1 24 [(.int .i64 p_s.actuators), (.slice ao1 p_s.steps.length cap1)]] H w') ∧ k3 = some r) ?_ ?_
      ·
       skip
       refine WP.seq (WP.region ?_)
       refine wq rfl rfl rfl (ov_assign rfl rfl) ?_
       refine WL.nil (then_normal (WP.block ?_))
       refine WP.loop (fun m2 g' S' => ∃ (i3 : Int), Sub [(1, (.slice ao2 p_word.length cap2)), (2, (pB b1 0)), (5, (.int .i64 i1)), (6, (.int .i64 i2)), (7, (.slice ao3 x1.strokes.length cap3)), (8, (.int .i64 i3)), (1000000007, (.bool false))] g' ∧ (∀ w', S' w' → St w H [.blk b1 24 [(.int .i64 p_s.actuators), (.slice ao1 p_s.steps.length cap1)]] H w') ∧ ref14_Takes_loop2 p_word i1 x1 k3 m2 i3 = some r) ((Int.toNat ((x1.strokes.length : Int) - 0) + 1)) ⟨0, (Sub.cons rfl (Sub.cons rfl (Sub.cons rfl (Sub.cons rfl (Sub.cons rfl (Sub.cons rfl (Sub.cons rfl (Sub.nil _)))))))), fun w' s => s, hm⟩ ?_ ?_
       ·
        rintro g' S' ⟨_, _, _, hm⟩
        exact none_some hm
       ·
        rintro m2 g' S' ⟨i3, hsub2, hS2, hm⟩
        refine WP.sub hsub2 (WP.weaken hS2 ?_)
        rw [ref14_Takes_loop2] at hm
        refine WP.seq (WP.seq (WP.region ?_))
        refine wq rfl rfl rfl (ov_move rfl rfl) ?_
        refine wq rfl rfl rfl (ov_move rfl rfl) ?_
        refine wq rfl rfl rfl (ov_len_slice Tryz.underlying25 rfl rfl) ?_
        refine wq rfl rfl rfl (ov_lss rfl rfl rfl) ?_
        refine WL.nil (then_normal ?_)
        refine WP.cond rfl (fun hc6 => ?_) (fun hc6 => ?_)
        ·
         replace hm := ite_t hc6 hm
         refine WP.skip (then_normal (WP.seq (WP.block (WP.seq ?_))))
         refine WP.region_draws (by kernel_rfl) (by kernel_rfl) (fun _ s => s.drew) ?_
         refine QL.quiet (Runs.free rfl) rfl rfl (OV.quiet (ov_move rfl rfl)) ?_
         refine QL.quiet (Runs.free rfl) rfl rfl (OV.quiet (ov_move rfl rfl)) ?_
         refine QL.quiet (Runs.free rfl) rfl rfl (OV.quiet (ov_move rfl rfl)) ?_
         refine QL.quiet (Runs.free rfl) rfl rfl (OV.quiet (ov_move rfl rfl)) ?_
         refine QL.quiet (Runs.free rfl) rfl rfl (OV.quiet (ov_len_slice Tryz.underlying25 rfl rfl)) ?_
         refine QL.quiet (Runs.free rfl) rfl rfl (OV.quiet (ov_add rfl rfl rfl)) ?_
         obtain ⟨l1, e2, hm⟩ := bind_some hm
         obtain ⟨ao4, cap4, h9, h10, hc7⟩ := sl_lh h2 hc2 e2
         refine QL.quiet (Runs.free rfl) rfl rfl (OV.quiet (h9 Tryz.underlying25 Tryz.sizeOf40 rfl rfl rfl rfl )) ?_
         refine QL.quiet (Runs.free rfl) rfl rfl (OV.quiet (ov_move rfl rfl)) ?_
         refine QL.quiet (Runs.free rfl) rfl rfl (OV.quiet (ov_move rfl rfl)) ?_
         obtain ⟨x2, e3, hm⟩ := bind_some hm
         obtain ⟨h11, h12, h13, cs2, h14, h15⟩ := h3.get e3 (by decide)
         obtain rfl : cs2 = [(.int .i64 x2.actuator), (.bool x2.out)] := h14
         refine QL.quiet (Runs.free rfl) rfl rfl (OV.quiet (ov_indexAddr Tryz.underlying25 Tryz.sizeOf40 rfl rfl rfl h11 h12 h13)) ?_
         refine QL.quiet (Runs.free rfl) rfl rfl (OV.quiet (ov_load_elems (vs := [(.int .i64 x2.actuator), (.bool x2.out)]) Tryz.isAgg40 Tryz.sizeOf40 rfl rfl rfl h15 h13)) ?_
         obtain ⟨r1, e4, hm⟩ := bind_some hm
         refine QL.quiet (Runs.free rfl) rfl rfl (oq_con (r := (.int .i64 r1)) Tryz.call81 rfl rfl (fun w' s => ⟨_, (ref14_count_con l1 x2 ao4 cap4  w' H s.hold h10 hc7 hG r1 e4)⟩)) ?_
         refine QL.quiet (Runs.free rfl) rfl rfl (OV.quiet (ov_neq rfl rfl rfl)) ?_
         refine QL.nil ?_
         refine then_normal ?_
         refine WP.cond rfl (fun hc8 => ?_) (fun hc8 => ?_)
         ·
          replace hm := ite_t hc8 hm
          refine WP.seq (WP.region ?_)
          refine wq rfl rfl rfl (ov_assign rfl rfl) ?_
          refine WL.nil (then_normal (WP.ret (block_ret (then_ret (then_ret (block_ret (then_ret (block_ret (then_ret (then_ret (block_ret (then_ret ?_))))))))))))
          obtain rfl := Option.some.inj hm
          refine retQ_ret Tryz.results50 (Res.tmp rfl Res.nil) rfl (fun w' s => ⟨s.below, ?_⟩)
          exact rfl
         ·
          replace hm := ite_f hc8 hm
          refine WP.skip (block_normal (then_normal (WP.region ?_)))
          refine wq rfl rfl rfl (ov_move rfl rfl) ?_
          refine wq rfl rfl rfl (ov_add rfl rfl rfl) ?_
          refine wq rfl rfl rfl (ov_assign rfl rfl) ?_
          refine WL.nil (then_normal ?_)
          exact ⟨(IntKind.wrap .i64 (i3 + 1)), (Sub.cons rfl (Sub.cons rfl (Sub.cons rfl (Sub.cons rfl (Sub.cons rfl (Sub.cons rfl (Sub.cons rfl (Sub.nil _)))))))), fun w' s => s, hm⟩
        ·
         replace hm := ite_f hc6 hm
         refine WP.exit (then_exit (then_exit (block_here (then_normal ?_))))
         exact ⟨(Sub.cons rfl (Sub.cons rfl (Sub.cons rfl (Sub.cons rfl (Sub.cons rfl (Sub.cons rfl (Sub.nil _))))))), fun w' s => s, hm⟩
      ·
       rintro g' S' ⟨hsub3, hS3, hm⟩
       refine WP.sub hsub3 (WP.weaken hS3 ?_)
       replace hm := hk3.symm.trans hm
       refine WP.region ?_
       refine wq rfl rfl rfl (ov_move rfl rfl) ?_
       refine wq rfl rfl rfl (ov_move rfl rfl) ?_
       refine wq rfl rfl rfl (ov_len_slice Tryz.underlying25 rfl rfl) ?_
       refine wq rfl rfl rfl (ov_add rfl rfl rfl) ?_
       refine wq rfl rfl rfl (ov_assign rfl rfl) ?_
       refine WL.nil (block_normal (then_normal ?_))
       exact ⟨(IntKind.wrap .i64 (i1 + (x1.strokes.length : Int))), (Sub.cons rfl (Sub.cons rfl (Sub.cons rfl (Sub.cons rfl (Sub.cons rfl (Sub.nil _)))))), fun w' s => s, hm⟩
    ·
     rintro g' S' ⟨i4, hsub4, hS4, hm⟩
     refine WP.sub hsub4 (WP.weaken hS4 ?_)
     replace hm := (congrFun hk2 i4).symm.trans hm
     refine WP.region ?_
     refine wq rfl rfl rfl (ov_move rfl rfl) ?_
     refine wq rfl rfl rfl (ov_add rfl rfl rfl) ?_
     refine wq rfl rfl rfl (ov_assign rfl rfl) ?_
     refine WL.nil (then_normal ?_)
     exact ⟨i4, (IntKind.wrap .i64 (i2 + 1)), (Sub.cons rfl (Sub.cons rfl (Sub.cons rfl (Sub.cons rfl (Sub.cons rfl (Sub.nil _)))))), fun w' s => s, hm⟩
   ·
    replace hm := ite_f hc3 hm
    refine WP.exit (then_exit (then_exit (block_here (then_normal ?_))))
    exact ⟨i1, (Sub.cons rfl (Sub.cons rfl (Sub.cons rfl (Sub.nil _)))), fun w' s => (s.select [] (by decide) rfl), hm⟩
 ·
  rintro g' S' ⟨i5, hsub5, hS5, hm⟩
  refine WP.sub hsub5 (WP.weaken hS5 ?_)
  replace hm := (congrFun hk1 i5).symm.trans hm
  refine WP.seq (WP.region ?_)
  refine wq rfl rfl rfl (ov_move rfl rfl) ?_
  refine wq rfl rfl rfl (ov_move rfl rfl) ?_
  refine wq rfl rfl rfl (ov_len_slice Tryz.underlying25 rfl rfl) ?_
  refine wq rfl rfl rfl (ov_eql rfl rfl rfl) ?_
  refine wq rfl rfl rfl (ov_assign rfl rfl) ?_
  refine WL.nil (then_normal (WP.ret ?_))
  obtain rfl := Option.some.inj hm
  refine retQ_ret Tryz.results50 (Res.tmp rfl Res.nil) rfl (fun w' s => ⟨s.below, ?_⟩)
  exact rfl

theorem ref14_Accepts_con (p_s : Sequence) (p_word : (List Stroke)) (ao1 : Option Addr) (cap1 : Nat) (ao2 : Option Addr) (cap2 : Nat) (w : World) (H : Heap) (hH : Le H (hp w)) (h1 : SL H encStep ao1 p_s.steps) (hc1 : p_s.steps.length ≤ cap1) (h2 : SL H encStroke ao2 p_word) (hc2 : p_word.length ≤ cap2) (hG : Glob H) (r : (Bool × Int)) (hm : ref14_Accepts p_s p_word = some r) :
  Con Tryz.prog 14 [(.agg #[(.int .i64 p_s.actuators), (.slice ao1 p_s.steps.length cap1)]), (.slice ao2 p_word.length cap2)] w H (fun v _ => v = (.tuple #[(.bool r.1), (.int .i64 r.2)])) := by
 unfold ref14_Accepts at hm
 refine con_of hH Tryz.func14 rfl 15 Tryz.ntmps14 rfl ?_
 refine WP.seq (WP.region ?_)
 refine WL.step (Runs.free rfl) rfl rfl (os_box (cs := [(.int .i64 p_s.actuators), (.slice ao1 p_s.steps.length cap1)]) rfl rfl rfl (fun b1 => ?_))
 refine wq rfl rfl rfl (ov_assign rfl rfl) ?_
 refine wq rfl rfl rfl (ov_assign rfl rfl) ?_
 refine WL.nil (then_normal (WP.seq (WP.seq (WP.region ?_))))
 refine wq rfl rfl rfl (ov_load_whole (i := 0) Tryz.isAgg24 Tryz.sizeOf24 rfl rfl rfl rfl) ?_
 obtain ⟨r1, e1, hm⟩ := bind_some hm
 refine WL.quiet (Runs.free rfl) rfl rfl (oq_con (r := (.int .i64 r1)) Tryz.call31 rfl rfl (fun w' s => ⟨_, (ref14_Check_con p_s ao1 cap1  w' H s.hold h1 hc1 hG r1 e1)⟩)) ?_
 refine wq rfl rfl rfl (ov_assign rfl rfl) ?_
 refine WL.nil (then_normal (WP.seq (WP.region ?_)))
 refine wq rfl rfl rfl (ov_move rfl rfl) ?_
 refine wq rfl rfl rfl (ov_neq rfl rfl rfl) ?_
 refine WL.nil (then_normal ?_)
 refine WP.cond rfl (fun hc3 => ?_) (fun hc3 => ?_)
 ·
  replace hm := ite_t hc3 hm
  refine WP.seq (WP.region ?_)
  refine wq rfl rfl rfl (ov_move rfl rfl) ?_
  refine wq rfl rfl rfl (ov_assign rfl rfl) ?_
  refine wq rfl rfl rfl (ov_assign rfl rfl) ?_
  refine WL.nil (then_normal (WP.ret (then_ret ?_)))
  obtain rfl := Option.some.inj hm
  refine retQ_ret Tryz.results14 (Res.tmp rfl (Res.tmp rfl Res.nil)) rfl (fun w' s => ⟨s.below, ?_⟩)
  exact rfl
 ·
  replace hm := ite_f hc3 hm
  refine WP.skip (then_normal (WP.seq (WP.region ?_)))
  refine wq rfl rfl rfl (ov_load_whole (i := 0) Tryz.isAgg24 Tryz.sizeOf24 rfl rfl rfl rfl) ?_
  refine wq rfl rfl rfl (ov_move rfl rfl) ?_
  obtain ⟨r2, e2, hm⟩ := bind_some hm
  refine WL.quiet (Runs.free rfl) rfl rfl (oq_con (r := (.bool r2)) Tryz.call50 rfl rfl (fun w' s => ⟨_, (ref14_Takes_con p_s p_word ao1 cap1 ao2 cap2  w' H s.hold h1 hc1 h2 hc2 hG r2 e2)⟩)) ?_
  refine wq rfl rfl rfl (ov_assign rfl rfl) ?_
  refine wq rfl rfl rfl (ov_assign rfl rfl) ?_
  refine WL.nil (then_normal (WP.ret ?_))
  obtain rfl := Option.some.inj hm
  refine retQ_ret Tryz.results14 (Res.tmp rfl (Res.tmp rfl Res.nil)) rfl (fun w' s => ⟨s.below, ?_⟩)
  exact rfl

theorem law14_right_con (p_s : Sequence) (ao1 : Option Addr) (cap1 : Nat) (w : World) (H : Heap) (hH : Le H (hp w)) (h1 : SL H encStep ao1 p_s.steps) (hc1 : p_s.steps.length ≤ cap1) (hG : Glob H) (r : Bool) (hm : law14_right p_s = some r) :
  Con Tryz.prog 15 [(.agg #[(.int .i64 p_s.actuators), (.slice ao1 p_s.steps.length cap1)])] w H (fun v _ => v = (.bool r)) := by
 unfold law14_right at hm
 refine con_of hH Tryz.func15 rfl 10 Tryz.ntmps15 rfl ?_
 refine WP.seq (WP.region ?_)
 refine WL.step (Runs.free rfl) rfl rfl (os_box (cs := [(.int .i64 p_s.actuators), (.slice ao1 p_s.steps.length cap1)]) rfl rfl rfl (fun b1 => ?_))
 refine wq rfl rfl rfl (ov_assign rfl rfl) ?_
 refine WL.nil (then_normal (WP.seq (WP.region ?_)))
 refine wq rfl rfl rfl (ov_load_whole (i := 0) Tryz.isAgg24 Tryz.sizeOf24 rfl rfl rfl rfl) ?_
 obtain ⟨r1, e1, hm⟩ := bind_some hm
 refine WL.quiet (Runs.free rfl) rfl rfl (oq_con (r := (.bool r1)) Tryz.call11 rfl rfl (fun w' s => ⟨_, (ref14_Few_con p_s ao1 cap1  w' H s.hold h1 hc1 hG r1 e1)⟩)) ?_
 refine wq rfl rfl rfl (ov_move rfl rfl) ?_
 obtain ⟨c1, e2, hm⟩ := bind_some hm
 refine WL.cut_bool 4 9 (x := c1) ?_ ?_
 ·
  rcases Bool.eq_false_or_eq_true r1 with hc2 | hc2
  ·
   skip
   replace hm := ite_t hc2 e2
   refine WL.quiet (Runs.yes rfl rfl rfl hc2) rfl rfl (OV.quiet (ov_load_whole (i := 0) Tryz.isAgg24 Tryz.sizeOf24 rfl rfl rfl rfl)) ?_
   obtain ⟨r2, e3, hm⟩ := bind_some hm
   refine WL.quiet (Runs.yes rfl rfl rfl hc2) rfl rfl (oq_con (r := (.int .i64 r2)) Tryz.call31 rfl rfl (fun w' s => ⟨_, (ref14_Check_con p_s ao1 cap1  w' H s.hold h1 hc1 hG r2 e3)⟩)) ?_
   refine WL.quiet (Runs.yes rfl rfl rfl hc2) rfl rfl (OV.quiet (ov_eql rfl rfl rfl)) ?_
   refine wq rfl rfl rfl (ov_pick_true rfl (guard_eq rfl hc2) rfl) ?_
   exact WL.nil ⟨Sub.cons' rfl (congrArg Value.bool (Option.some.inj hm)) (Sub.skip rfl (Sub.skip rfl (Sub.skip rfl (Sub.skip rfl (Sub.refl _))))), fun _ s => s⟩
  ·
   skip
   replace hm := ite_f hc2 e2
   refine WL.idle (Idle.no rfl rfl rfl hc2) rfl rfl ?_
   refine WL.idle (Idle.no rfl rfl rfl hc2) rfl rfl ?_
   refine WL.idle (Idle.no rfl rfl rfl hc2) rfl rfl ?_
   refine wq rfl rfl rfl (ov_pick_false rfl (guard_eq rfl hc2) rfl) ?_
   exact WL.nil ⟨Sub.cons' rfl (congrArg Value.bool (Option.some.inj hm)) (Sub.skip rfl (Sub.skip rfl (Sub.skip rfl (Sub.skip rfl (Sub.refl _))))), fun _ s => s⟩
 refine wq rfl rfl rfl (ov_assign rfl rfl) ?_
 refine WL.nil (then_normal (WP.ret ?_))
 obtain rfl := Option.some.inj hm
 refine retQ_ret Tryz.results15 (Res.tmp rfl Res.nil) rfl (fun w' s => ⟨s.below, ?_⟩)
 exact rfl

theorem sequence_Word_con (p_s : Sequence) (ao1 : Option Addr) (cap1 : Nat) (w : World) (H : Heap) (hH : Le H (hp w)) (h1 : SL H encStep ao1 p_s.steps) (hc1 : p_s.steps.length ≤ cap1) (hG : Glob H) (r : ((List Stroke) × Int)) (hm : sequence_Word p_s = some r) :
  Con Tryz.prog 16 [(.agg #[(.int .i64 p_s.actuators), (.slice ao1 p_s.steps.length cap1)])] w H (fun v H' => ∃ (ao2 : Option Addr) (cap2 : Nat), v = (.tuple #[(.slice ao2 r.1.length cap2), (.int .i64 r.2)]) ∧ SL H' encStroke ao2 r.1 ∧ r.1.length ≤ cap2) := by
 unfold sequence_Word at hm
 refine con_of hH Tryz.func16 rfl 26 Tryz.ntmps16 rfl ?_
 refine WP.seq (WP.region ?_)
 refine WL.step (Runs.free rfl) rfl rfl (os_box (cs := [(.int .i64 p_s.actuators), (.slice ao1 p_s.steps.length cap1)]) rfl rfl rfl (fun b1 => ?_))
 refine wq rfl rfl rfl (ov_assign rfl rfl) ?_
 refine wq rfl rfl rfl (ov_assign rfl rfl) ?_
 refine WL.nil (then_normal (WP.seq (WP.seq (WP.region ?_))))
 refine wq rfl rfl rfl (ov_load_whole (i := 0) Tryz.isAgg24 Tryz.sizeOf24 rfl rfl rfl rfl) ?_
 obtain ⟨r1, e1, hm⟩ := bind_some hm
 refine WL.quiet (Runs.free rfl) rfl rfl (oq_con (r := (.int .i64 r1)) Tryz.call30 rfl rfl (fun w' s => ⟨_, (sequence_Check_con p_s ao1 cap1  w' H s.hold h1 hc1 hG r1 e1)⟩)) ?_
 refine wq rfl rfl rfl (ov_assign rfl rfl) ?_
 refine WL.nil (then_normal (WP.seq (WP.region ?_)))
 refine wq rfl rfl rfl (ov_move rfl rfl) ?_
 refine wq rfl rfl rfl (ov_neq rfl rfl rfl) ?_
 refine WL.nil (then_normal ?_)
 refine WP.cond rfl (fun hc3 => ?_) (fun hc3 => ?_)
 ·
  replace hm := ite_t hc3 hm
  refine WP.seq (WP.region ?_)
  refine wq rfl rfl rfl (ov_move rfl rfl) ?_
  refine wq rfl rfl rfl (ov_assign rfl rfl) ?_
  refine wq rfl rfl rfl (ov_assign rfl rfl) ?_
  refine WL.nil (then_normal (WP.ret (then_ret ?_)))
  obtain rfl := Option.some.inj hm
  refine retQ_ret Tryz.results16 (Res.tmp rfl (Res.tmp rfl Res.nil)) rfl (fun w' s => ⟨s.below, ?_⟩)
  exact ⟨none, 0, rfl, SL.nil _ _ _, Nat.le_refl _⟩
 ·
  replace hm := ite_f hc3 hm
  refine WP.skip (then_normal (WP.seq (WP.region ?_)))
  refine wq rfl rfl rfl (ov_assign rfl rfl) ?_
  refine WL.nil (then_normal ?_)
  obtain ⟨k1, hk1, hm⟩ := joinK_some hm
  refine WP.seq_join (fun g' S' => ∃ (l3 : (List Stroke)) (ao6 : Option Addr) (cap6 : Nat) (xs2 : List Value), RL H encStroke l3 xs2 ∧ Sub [(5, (.slice ao6 l3.length cap6)), (1000000007, (.bool false))] g' ∧ (∀ w', S' w' → St w H [.row 40 (encStroke).size l3.length (.slice ao6 l3.length cap6) xs2] H w') ∧ k1 l3 = some r) ?_ ?_
  ·
   skip
   refine WP.seq (WP.region ?_)
   refine wq rfl rfl rfl (ov_fieldAddr Tryz.underlying24 rfl rfl rfl Tryz.sizeOf22 rfl rfl) ?_
   refine wq rfl rfl rfl (ov_load_box (i := 0) Tryz.isAgg22 rfl rfl rfl rfl) ?_
   refine wq rfl rfl rfl (ov_len_slice Tryz.underlying22 rfl rfl) ?_
   refine wq rfl rfl rfl (ov_move rfl rfl) ?_
   refine WL.nil (then_normal (WP.block ?_))
   have rl1 := RL.nil (α := Stroke) H encStroke
   refine WP.weaken (fun _ s => s.nilrow 40 (encStroke).size) ?_
   refine WP.loop (fun m1 g' S' => ∃ (i1 : Int) (l1 : (List Stroke)) (ao3 : Option Addr) (cap3 : Nat) (xs1 : List Value), RL H encStroke l1 xs1 ∧ Sub [(5, (.slice ao3 l1.length cap3)), (14, (.slice ao1 p_s.steps.length cap1)), (15, (.int .i64 (p_s.steps.length : Int))), (16, (.int .i64 i1)), (1000000007, (.bool false))] g' ∧ (∀ w', S' w' → St w H [.row 40 (encStroke).size l1.length (.slice ao3 l1.length cap3) xs1] H w') ∧ sequence_Word_loop1 p_s k1 m1 i1 l1 = some r) ((Int.toNat ((p_s.steps.length : Int) - 0) + 1)) ⟨0, ([] : List Stroke), none, 0, [], rl1, (Sub.cons rfl (Sub.cons rfl (Sub.cons rfl (Sub.cons rfl (Sub.cons rfl (Sub.nil _)))))), fun w' s => (s.select [0] (by decide) rfl), hm⟩ ?_ ?_
   ·
    rintro g' S' ⟨_, _, _, _, _, _, _, _, hm⟩
    exact none_some hm
   ·
    rintro m1 g' S' ⟨i1, l1, ao3, cap3, xs1, rl2, hsub1, hS1, hm⟩
    refine WP.sub hsub1 (WP.weaken hS1 ?_)
    rw [sequence_Word_loop1] at hm
    refine WP.seq (WP.region ?_)
    refine wq rfl rfl rfl (ov_lss rfl rfl rfl) ?_
    refine WL.nil (then_normal (WP.seq ?_))
    refine WP.cond rfl (fun hc4 => ?_) (fun hc4 => ?_)
    ·
     replace hm := ite_t hc4 hm
     refine WP.skip (then_normal (WP.seq (WP.block (WP.seq (WP.region ?_)))))
     obtain ⟨x1, e2, hm⟩ := bind_some hm
     obtain ⟨h4, h5, h6, cs1, h7, h8⟩ := h1.get e2 (by decide)
     obtain ⟨ao4, cap4, rfl, h3, hc5⟩ := h7
     refine wq rfl rfl rfl (ov_indexAddr Tryz.underlying22 Tryz.sizeOf37 rfl rfl rfl h4 h5 h6) ?_
     refine wq rfl rfl rfl (ov_load_elems (vs := [(.slice ao4 x1.strokes.length cap4), (.int .i64 x1.wait)]) Tryz.isAgg37 Tryz.sizeOf37 rfl rfl rfl h8 h6) ?_
     refine WL.step (Runs.free rfl) rfl rfl (os_alloc (cs := [(.slice none 0 0), (.int .i64 0)]) Tryz.zeroValue37 rfl rfl (fun b2 => ?_))
     refine WL.step0 (Runs.free rfl) rfl (os_store (i := 0) (vs := [(.slice ao4 x1.strokes.length cap4), (.int .i64 x1.wait)]) (cs' := [(.slice ao4 x1.strokes.length cap4), (.int .i64 x1.wait)]) Tryz.sizeOf37 rfl rfl rfl rfl rfl rfl rfl rfl rfl ?_)
     refine WL.nil (then_normal (WP.region ?_))
     refine wq rfl rfl rfl (ov_move rfl rfl) ?_
     refine wq rfl rfl rfl (ov_fieldAddr Tryz.underlying37 rfl rfl rfl Tryz.sizeOf25 rfl rfl) ?_
     refine wq rfl rfl rfl (ov_load_box (i := 0) Tryz.isAgg25 rfl rfl rfl rfl) ?_
     obtain ⟨l2, e3, hm⟩ := bind_some hm
     refine WL.step (Runs.free rfl) rfl rfl (os_app_sl (i := 1) (En := encStroke) (xs := xs1) Tryz.underlying25 (by kernel_rfl : (Tryz.prog.info? 40).map (fun i => (i.zero, i.size, i.bytes)) = some (some (.agg #[(.int .i64 0), (.bool false)]), (encStroke).size, 16)) rfl (by decide) one_encStroke rfl rfl rfl rfl h3 hc5 rl2 e3 (fun ao5 cap5 ys1 rl3 => ?_))
     refine wq rfl rfl rfl (ov_assign rfl rfl) ?_
     refine WL.nil (block_normal (then_normal (WP.region ?_)))
     refine wq rfl rfl rfl (ov_add rfl rfl rfl) ?_
     refine wq rfl rfl rfl (ov_move rfl rfl) ?_
     refine WL.nil (then_normal ?_)
     exact ⟨(IntKind.wrap .i64 (i1 + 1)), (l1 ++ x1.strokes), ao5, cap5, (xs1 ++ ys1), rl3, (Sub.cons rfl (Sub.cons rfl (Sub.cons rfl (Sub.cons rfl (Sub.cons rfl (Sub.nil _)))))), fun w' s => (s.select [1] (by decide) rfl), hm⟩
    ·
     replace hm := ite_f hc4 hm
     refine WP.exit (then_exit (then_exit (block_here (then_normal ?_))))
     exact ⟨l1, ao3, cap3, xs1, rl2, (Sub.cons rfl (Sub.cons rfl (Sub.nil _))), fun w' s => s, hm⟩
  ·
   rintro g' S' ⟨l3, ao6, cap6, xs2, rl4, hsub2, hS2, hm⟩
   refine WP.sub hsub2 (WP.weaken hS2 ?_)
   replace hm := (congrFun hk1 l3).symm.trans hm
   refine WP.seq (WP.region ?_)
   refine wq rfl rfl rfl (ov_move rfl rfl) ?_
   refine wq rfl rfl rfl (ov_assign rfl rfl) ?_
   refine wq rfl rfl rfl (ov_assign rfl rfl) ?_
   refine WL.nil (then_normal (WP.ret ?_))
   obtain rfl := Option.some.inj hm
   refine retQ_ret Tryz.results16 (Res.tmp rfl (Res.tmp rfl Res.nil)) rfl (fun w' s => ⟨s.below, ?_⟩)
   obtain ⟨h9, hc6⟩ := s.ret_row (i := 0) rfl rl4
   exact ⟨ao6, cap6, rfl, h9, hc6⟩

end Go.Proofs.YtbhcojijafbdiaaGreatDoor.W
