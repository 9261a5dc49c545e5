/- The walks. Written by our own program gen.py; Lean checks it. -/
import Derived.Test.YtbhcojijafbdiaaGreatDoorPlain
import Derived.Test.YtbhcojijafbdiaaGreatDoorEqs
import Derived.Test.YtbhcojijafbdiaaGreatDoorProg
import Derived.Test.YtbhcojijafbdiaaGreatDoorExt
import Derived.Test.YtbhcojijafbdiaaGreatDoorClone
import Derived.Test.YtbhcojijafbdiaaGreatDoorCloneS
import Derived.Test.YtbhcojijafbdiaaGreatDoorWalk4
import Derived.Test.YtbhcojijafbdiaaGreatDoorWalk6
import Derived.Test.YtbhcojijafbdiaaGreatDoorWalk7
import Derived.Test.YtbhcojijafbdiaaGreatDoorWalk8
set_option linter.unusedVariables false
set_option maxRecDepth 100000
set_option maxHeartbeats 4000000
namespace Go.Proofs.YtbhcojijafbdiaaGreatDoor.W
open Go Go.RowKit
theorem law14_SequenceRepeats_con (p_s : Sequence) (ao1 : Option Addr) (cap1 : Nat) (w : World) (H : Heap) (hH : Le H (hp w)) (h1 : SL H encStep ao1 p_s.steps) (hc1 : p_s.steps.length ≤ cap1) (hG : Glob H) (r : Bool) (hm : law14_SequenceRepeats p_s = some r) :
  Con Tryz.prog 5 [(.agg #[(.int .i64 p_s.actuators), (.slice ao1 p_s.steps.length cap1)])] w H (fun v _ => v = (.bool r)) := by
 unfold law14_SequenceRepeats at hm
 refine con_of hH Tryz.func5 rfl 54 Tryz.ntmps5 rfl ?_
 refine WP.seq (WP.region ?_)
 refine WL.step (Runs.free rfl) rfl rfl (os_box (cs := [(.int .i64 p_s.actuators), (.slice ao1 p_s.steps.length cap1)]) rfl rfl rfl (fun b1 => ?_))
 refine wq rfl rfl rfl (ov_assign rfl rfl) ?_
 refine WL.nil (then_normal (WP.seq (WP.seq (WP.region ?_))))
 refine wq rfl rfl rfl (ov_load_whole (i := 0) Tryz.isAgg24 Tryz.sizeOf24 rfl rfl rfl rfl) ?_
 obtain ⟨r1, e1, hm⟩ := bind_some hm
 refine WL.quiet (Runs.free rfl) rfl rfl (oq_con (r := (.bool r1)) Tryz.call15 rfl rfl (fun w' s => ⟨_, (law14_right_con p_s ao1 cap1  w' H s.hold h1 hc1 hG r1 e1)⟩)) ?_
 refine wq rfl rfl rfl (ov_not rfl rfl) ?_
 refine WL.nil (then_normal ?_)
 refine WP.cond rfl (fun hc2 => ?_) (fun hc2 => ?_)
 ·
  replace hm := ite_t hc2 hm
  refine WP.seq (WP.region ?_)
  obtain ⟨r2, e2, hm⟩ := bind_some hm
  refine WL.quiet (Runs.free rfl) rfl rfl (oq_con (r := (.bool r2)) Tryz.call12 rfl rfl (fun w' s => ⟨_, (law14_awake_con   w' H s.hold hG r2 e2)⟩)) ?_
  refine wq rfl rfl rfl (ov_assign rfl rfl) ?_
  refine WL.nil (then_normal (WP.ret (then_ret ?_)))
  obtain rfl := Option.some.inj hm
  refine retQ_ret Tryz.results5 (Res.tmp rfl Res.nil) rfl (fun w' s => ⟨s.below, ?_⟩)
  exact rfl
 ·
  replace hm := ite_f hc2 hm
  refine WP.skip (then_normal (WP.seq (WP.region ?_)))
  refine wq rfl rfl rfl (ov_load_whole (i := 0) Tryz.isAgg24 Tryz.sizeOf24 rfl rfl rfl rfl) ?_
  obtain ⟨r3, e3, hm⟩ := bind_some hm
  refine WL.step (Runs.free rfl) rfl rfl (os_con Tryz.call18 rfl rfl (fun w' s => (sequence_Repeats_con p_s ao1 cap1  w' H s.hold h1 hc1 hG r3 e3)) (fun rr1 H1 hle1 hR1 => ?_))
  replace h1 := h1.mono hle1
  replace hG := hG.mono hle1
  obtain ⟨ao2, cap2, rfl, h2, hc3⟩ := hR1
  refine wq rfl rfl rfl (ov_move rfl rfl) ?_
  refine wq rfl rfl rfl (ov_extract rfl rfl rfl) ?_
  refine wq rfl rfl rfl (ov_extract rfl rfl rfl) ?_
  refine wq rfl rfl rfl (ov_assign rfl rfl) ?_
  refine wq rfl rfl rfl (ov_assign rfl rfl) ?_
  refine WL.nil (then_normal (WP.seq (WP.seq (WP.region ?_))))
  refine wq rfl rfl rfl (ov_move rfl rfl) ?_
  refine wq rfl rfl rfl (ov_neq rfl rfl rfl) ?_
  refine wq rfl rfl rfl (ov_move rfl rfl) ?_
  obtain ⟨c1, e4, hm⟩ := bind_some hm
  refine WL.cut_bool 4 24 (x := c1) ?_ ?_
  ·
   rcases Bool.eq_false_or_eq_true (r3.2 != 0) with hc4 | hc4
   ·
    skip
    replace hm := ite_t hc4 e4
    refine WL.idle (Idle.no rfl rfl rfl hc4) rfl rfl ?_
    refine WL.idle (Idle.no rfl rfl rfl hc4) rfl rfl ?_
    refine WL.idle (Idle.no rfl rfl rfl hc4) rfl rfl ?_
    refine wq rfl rfl rfl (ov_pick_true rfl (guard_eq rfl hc4) rfl) ?_
    exact WL.nil ⟨Sub.cons' rfl (congrArg Value.bool (Option.some.inj hm)) (Sub.skip rfl (Sub.skip rfl (Sub.skip rfl (Sub.skip rfl (Sub.refl _))))), fun _ s => s⟩
   ·
    skip
    replace hm := ite_f hc4 e4
    refine WL.quiet (Runs.yes rfl rfl rfl hc4) rfl rfl (OV.quiet (ov_move rfl rfl)) ?_
    obtain ⟨r4, e5, hm⟩ := bind_some hm
    refine WL.quiet (Runs.yes rfl rfl rfl hc4) rfl rfl (oq_con (r := (.bool r4)) Tryz.call19 rfl rfl (fun w' s => ⟨_, (slices_IsSorted_intint_con r3.1 ao2 cap2  w' H1 s.hold h2 hc3 hG r4 e5)⟩)) ?_
    refine WL.quiet (Runs.yes rfl rfl rfl hc4) rfl rfl (OV.quiet (ov_not rfl rfl)) ?_
    refine wq rfl rfl rfl (ov_pick_false rfl (guard_eq rfl hc4) rfl) ?_
    exact WL.nil ⟨Sub.cons' rfl (congrArg Value.bool (Option.some.inj hm)) (Sub.skip rfl (Sub.skip rfl (Sub.skip rfl (Sub.skip rfl (Sub.refl _))))), fun _ s => s⟩
  refine WL.nil (then_normal ?_)
  refine WP.cond rfl (fun hc5 => ?_) (fun hc5 => ?_)
  ·
   replace hm := ite_t hc5 hm
   refine WP.seq (WP.region ?_)
   refine wq rfl rfl rfl (ov_assign rfl rfl) ?_
   refine WL.nil (then_normal (WP.ret (then_ret ?_)))
   obtain rfl := Option.some.inj hm
   refine retQ_ret Tryz.results5 (Res.tmp rfl Res.nil) rfl (fun w' s => ⟨s.below, ?_⟩)
   exact rfl
  ·
   replace hm := ite_f hc5 hm
   refine WP.skip (then_normal (WP.seq (WP.region ?_)))
   refine wq rfl rfl rfl (ov_assign rfl rfl) ?_
   refine WL.nil (then_normal ?_)
   obtain ⟨k1, hk1, hm⟩ := joinK_some hm
   refine WP.seq_join (fun g' S' => ∃ (H4 : Heap), Le H1 H4 ∧ Sub [(1, (pB b1 0)), (3, (.slice ao2 r3.1.length cap2)), (1000000007, (.bool false))] g' ∧ (∀ w', S' w' → St w H [.blk b1 24 [(.int .i64 p_s.actuators), (.slice ao1 p_s.steps.length cap1)]] H4 w') ∧ k1 = some r) ?_ ?_
   ·
    skip
    refine WP.seq (WP.region ?_)
    refine wq rfl rfl rfl (ov_fieldAddr Tryz.underlying24 rfl rfl rfl Tryz.sizeOf22 rfl rfl) ?_
    refine wq rfl rfl rfl (ov_load_box (i := 0) Tryz.isAgg22 rfl rfl rfl rfl) ?_
    refine wq rfl rfl rfl (ov_len_slice Tryz.underlying22 rfl rfl) ?_
    refine wq rfl rfl rfl (ov_move rfl rfl) ?_
    refine WL.nil (then_normal (WP.block ?_))
    have rl1 := RL.nil (α := (List Bool)) H1 (encSl encBool)
    refine WP.weaken (fun _ s => s.nilrow 47 ((encSl encBool)).size) ?_
    refine WP.loop (fun m1 g' S' => ∃ (H2 : Heap) (i1 : Int) (l1 : (List (List Bool))) (ao3 : Option Addr) (cap3 : Nat) (xs1 : List Value), Le H1 H2 ∧ RL H2 (encSl encBool) l1 xs1 ∧ Sub [(1, (pB b1 0)), (3, (.slice ao2 r3.1.length cap2)), (5, (.slice ao3 l1.length cap3)), (27, (.int .i64 (p_s.steps.length : Int))), (28, (.int .i64 i1)), (1000000007, (.bool false))] g' ∧ (∀ w', S' w' → St w H [.row 47 ((encSl encBool)).size l1.length (.slice ao3 l1.length cap3) xs1, .blk b1 24 [(.int .i64 p_s.actuators), (.slice ao1 p_s.steps.length cap1)]] H2 w') ∧ law14_SequenceRepeats_loop1 p_s r3 k1 m1 i1 l1 = some r) ((Int.toNat ((p_s.steps.length : Int) - 0) + 1)) ⟨H1, 0, ([] : List (List Bool)), none, 0, [], (Le.refl _), rl1, (Sub.cons rfl (Sub.cons rfl (Sub.cons rfl (Sub.cons rfl (Sub.cons rfl (Sub.cons rfl (Sub.nil _))))))), fun w' s => s, hm⟩ ?_ ?_
    ·
     rintro g' S' ⟨_, _, _, _, _, _, _, _, _, _, hm⟩
     exact none_some hm
    ·
     rintro m1 g' S' ⟨H2, i1, l1, ao3, cap3, xs1, hle2, rl2, hsub1, hS1, hm⟩
     refine WP.sub hsub1 (WP.weaken hS1 ?_)
     rw [law14_SequenceRepeats_loop1] at hm
     replace h2 := h2.mono hle2
     replace h1 := h1.mono hle2
     replace hG := hG.mono hle2
     refine WP.seq (WP.region ?_)
     refine wq rfl rfl rfl (ov_lss rfl rfl rfl) ?_
     refine WL.nil (then_normal (WP.seq ?_))
     refine WP.cond rfl (fun hc6 => ?_) (fun hc6 => ?_)
     ·
      replace hm := ite_t hc6 hm
      refine WP.skip (then_normal (WP.seq (WP.block (WP.seq (WP.region ?_)))))
      refine wq rfl rfl rfl (ov_move rfl rfl) ?_
      refine wq rfl rfl rfl (ov_assign rfl rfl) ?_
      refine WL.nil (then_normal (WP.seq (WP.region ?_)))
      refine wq rfl rfl rfl (ov_load_whole (i := 1) Tryz.isAgg24 Tryz.sizeOf24 rfl rfl rfl rfl) ?_
      refine wq rfl rfl rfl (ov_move rfl rfl) ?_
      obtain ⟨r5, e6, hm⟩ := bind_some hm
      refine WL.step (Runs.free rfl) rfl rfl (os_con Tryz.call20 rfl rfl (fun w' s => (ref14_Behind_con p_s i1 ao1 cap1  w' H2 s.hold h1 hc1 hG r5 e6)) (fun rr2 H3 hle3 hR2 => ?_))
      replace h2 := h2.mono hle3
      replace h1 := h1.mono hle3
      replace rl2 := rl2.mono hle3
      replace hG := hG.mono hle3
      obtain ⟨ao4, cap4, rfl, h3, hc7⟩ := hR2
      refine WL.step (Runs.free rfl) rfl rfl (os_alloc (cs := [(.slice none 0 0)]) Tryz.zeroValue47 rfl rfl (fun b2 => ?_))
      refine WL.step0 (Runs.free rfl) rfl (os_store (i := 0) (vs := [(.slice ao4 r5.length cap4)]) (cs' := [(.slice ao4 r5.length cap4)]) Tryz.sizeOf47 rfl rfl rfl rfl rfl rfl rfl rfl rfl ?_)
      refine WL.nil (then_normal ?_)
      obtain ⟨k2, hk2, hm⟩ := joinK_some hm
      refine WP.seq_join (fun g' S' => ∃ (c2 : Bool), Sub [(1, (pB b1 0)), (3, (.slice ao2 r3.1.length cap2)), (5, (.slice ao3 l1.length cap3)), (6, (.int .i64 i1)), (7, (pB b2 0)), (8, (.bool c2)), (27, (.int .i64 (p_s.steps.length : Int))), (28, (.int .i64 i1)), (1000000007, (.bool false))] g' ∧ (∀ w', S' w' → St w H [.blk b2 47 [(.slice ao4 r5.length cap4)], .row 47 ((encSl encBool)).size l1.length (.slice ao3 l1.length cap3) xs1, .blk b1 24 [(.int .i64 p_s.actuators), (.slice ao1 p_s.steps.length cap1)]] H3 w') ∧ k2 c2 = some r) ?_ ?_
      ·
       skip
       refine WP.region ?_
       refine wq rfl rfl rfl (ov_move rfl rfl) ?_
       refine wq rfl rfl rfl (ov_makeFunc' (first := []) rfl rfl rfl) ?_
       refine WL.step (Runs.free rfl) rfl rfl (os_inline (cap := []) (vs := [(.slice ao3 l1.length cap3), (.func (.func 22) #[] #[(pB b2 0)])]) Tryz.call21 rfl rfl rfl Tryz.func21 rfl 9 Tryz.ntmps21 rfl (fun w' s => ?_))
       refine WP.seq (WP.region ?_)
       refine wq rfl rfl rfl (ov_assign rfl rfl) ?_
       refine WL.nil (then_normal (WP.seq (WP.region ?_)))
       refine wq rfl rfl rfl (ov_move rfl rfl) ?_
       refine wq rfl rfl rfl (ov_move rfl rfl) ?_
       refine WL.step (Runs.free rfl) rfl rfl (os_inline (cap := []) (vs := [(.slice ao3 l1.length cap3), (.func (.func 22) #[] #[(pB b2 0)])]) Tryz.call55 rfl rfl rfl Tryz.func55 rfl 19 Tryz.ntmps55 rfl (fun w' s => ?_))
       refine WP.seq (WP.region ?_)
       refine wq rfl rfl rfl (ov_assign rfl rfl) ?_
       refine WL.nil (then_normal ?_)
       obtain ⟨k3, hk3, hm⟩ := joinK_some hm
       refine WP.seq_join (fun g' S' => Sub [(1000000007, (.bool false))] g' ∧ (∀ w', S' w' → St w H [.blk b2 47 [(.slice ao4 r5.length cap4)], .row 47 ((encSl encBool)).size l1.length (.slice ao3 l1.length cap3) xs1, .blk b1 24 [(.int .i64 p_s.actuators), (.slice ao1 p_s.steps.length cap1)]] H3 w') ∧ k3 = some r) ?_ ?_
       ·
        skip
        refine WP.seq (WP.region ?_)
        refine wq rfl rfl rfl (ov_move rfl rfl) ?_
        refine wq rfl rfl rfl (ov_len_slice Tryz.underlying46 rfl rfl) ?_
        refine wq rfl rfl rfl (ov_move rfl rfl) ?_
        refine WL.nil (then_normal (WP.block ?_))
        refine WP.loop (fun m2 g' S' => ∃ (i2 : Int), Sub [(0, (.slice ao3 l1.length cap3)), (1, (.func (.func 22) #[] #[(pB b2 0)])), (7, (.int .i64 (l1.length : Int))), (8, (.int .i64 i2)), (1000000007, (.bool false))] g' ∧ (∀ w', S' w' → St w H [.blk b2 47 [(.slice ao4 r5.length cap4)], .row 47 ((encSl encBool)).size l1.length (.slice ao3 l1.length cap3) xs1, .blk b1 24 [(.int .i64 p_s.actuators), (.slice ao1 p_s.steps.length cap1)]] H3 w') ∧ law14_SequenceRepeats_loop2 l1 r5 k2 k3 m2 i2 = some r) ((Int.toNat ((l1.length : Int) - 0) + 1)) ⟨0, (Sub.cons rfl (Sub.cons rfl (Sub.cons rfl (Sub.cons rfl (Sub.cons rfl (Sub.nil _)))))), fun w' s => s, hm⟩ ?_ ?_
        ·
         rintro g' S' ⟨_, _, _, hm⟩
         exact none_some hm
        ·
         rintro m2 g' S' ⟨i2, hsub2, hS2, hm⟩
         refine WP.sub hsub2 (WP.weaken hS2 ?_)
         rw [law14_SequenceRepeats_loop2] at hm
         refine WP.seq (WP.region ?_)
         refine wq rfl rfl rfl (ov_lss rfl rfl rfl) ?_
         refine WL.nil (then_normal (WP.seq ?_))
         refine WP.cond rfl (fun hc8 => ?_) (fun hc8 => ?_)
         ·
          replace hm := ite_t hc8 hm
          refine WP.skip (then_normal (WP.seq (WP.block (WP.seq (WP.region ?_)))))
          refine wq rfl rfl rfl (ov_move rfl rfl) ?_
          refine wq rfl rfl rfl (ov_assign rfl rfl) ?_
          refine WL.nil (then_normal (WP.seq (WP.region ?_)))
          refine wq rfl rfl rfl (ov_move rfl rfl) ?_
          refine wq rfl rfl rfl (ov_move rfl rfl) ?_
          refine wq rfl rfl rfl (ov_move rfl rfl) ?_
          obtain ⟨x1, e7, hm⟩ := bind_some hm
          obtain ⟨h5, h6, h7, cs1, h8, h9⟩ := RL.get rl2 e7
          obtain ⟨ao5, cap5, rfl, h4, hc9⟩ := h8
          refine wq rfl rfl rfl (ov_indexAddr_own (i := 1) Tryz.underlying46 Tryz.sizeOf47 rfl rfl rfl rfl h5 h6) ?_
          refine wq rfl rfl rfl (ov_load_own (i := 1) Tryz.isAgg47 rfl rfl rfl (own_pos h5 h6) (elem_cell h9 (off := 0) rfl)) ?_
          refine WL.step (Runs.free rfl) rfl rfl (os_inline (cap := [(pB b2 0)]) (vs := [(.slice ao5 x1.length cap5)]) Tryz.call22 rfl rfl rfl Tryz.func22 rfl 7 Tryz.ntmps22 rfl (fun w' s => ?_))
          refine WP.seq (WP.region ?_)
          refine wq rfl rfl rfl (ov_assign rfl rfl) ?_
          refine WL.nil (then_normal (WP.seq (WP.region ?_)))
          refine wq rfl rfl rfl (ov_move rfl rfl) ?_
          refine wq rfl rfl rfl (ov_load_box (i := 0) Tryz.isAgg47 rfl rfl rfl rfl) ?_
          obtain ⟨r6, e8, hm⟩ := bind_some hm
          refine WL.quiet (Runs.free rfl) rfl rfl (oq_con (r := (.bool r6)) Tryz.call23 rfl rfl (fun w' s => ⟨_, (ref13_SameEnds_con x1 r5 ao5 cap5 ao4 cap4  w' H3 s.hold h4 hc9 h3 hc7 hG r6 e8)⟩)) ?_
          refine wq rfl rfl rfl (ov_assign rfl rfl) ?_
          refine WL.nil (then_normal (WP.ret ?_))
          refine retQ_ret (v := (.bool r6)) Tryz.results22 (Res.tmp rfl Res.nil) rfl (fun w' s => ⟨_, ?_, s⟩)
          refine WL.nil (then_normal ?_)
          refine WP.cond rfl (fun hc10 => ?_) (fun hc10 => ?_)
          ·
           replace hm := ite_t hc10 hm
           refine WP.seq (WP.region ?_)
           refine wq rfl rfl rfl (ov_move rfl rfl) ?_
           refine wq rfl rfl rfl (ov_assign rfl rfl) ?_
           refine WL.nil (then_normal (WP.ret (block_ret (then_ret (then_ret (block_ret (then_ret ?_)))))))
           refine retQ_ret (v := (.int .i64 i2)) Tryz.results55 (Res.tmp rfl Res.nil) rfl (fun w' s => ⟨_, ?_, s⟩)
           refine wq rfl rfl rfl (ov_geq rfl rfl rfl) ?_
           refine wq rfl rfl rfl (ov_assign rfl rfl) ?_
           refine WL.nil (then_normal (WP.ret ?_))
           refine retQ_ret (v := (.bool (decide (i2 ≥ 0)))) Tryz.results21 (Res.tmp rfl Res.nil) rfl (fun w' s => ⟨_, ?_, s⟩)
           refine wq rfl rfl rfl (ov_assign rfl rfl) ?_
           refine WL.nil (then_normal ?_)
           exact ⟨(decide (i2 ≥ 0)), (Sub.cons rfl (Sub.cons rfl (Sub.cons rfl (Sub.cons rfl (Sub.cons rfl (Sub.cons rfl (Sub.cons rfl (Sub.cons rfl (Sub.cons rfl (Sub.nil _)))))))))), fun w' s => s, hm⟩
          ·
           replace hm := ite_f hc10 hm
           refine WP.skip (block_normal (then_normal (WP.region ?_)))
           refine wq rfl rfl rfl (ov_add rfl rfl rfl) ?_
           refine wq rfl rfl rfl (ov_move rfl rfl) ?_
           refine WL.nil (then_normal ?_)
           exact ⟨(IntKind.wrap .i64 (i2 + 1)), (Sub.cons rfl (Sub.cons rfl (Sub.cons rfl (Sub.cons rfl (Sub.cons rfl (Sub.nil _)))))), fun w' s => s, hm⟩
         ·
          replace hm := ite_f hc8 hm
          refine WP.exit (then_exit (then_exit (block_here (then_normal ?_))))
          exact ⟨(Sub.cons rfl (Sub.nil _)), fun w' s => s, hm⟩
       ·
        rintro g' S' ⟨hsub3, hS3, hm⟩
        refine WP.sub hsub3 (WP.weaken hS3 ?_)
        replace hm := hk3.symm.trans hm
        refine WP.seq (WP.region ?_)
        refine wq rfl rfl rfl (ov_assign rfl rfl) ?_
        refine WL.nil (then_normal (WP.ret ?_))
        refine retQ_ret (v := (.int .i64 (-1))) Tryz.results55 (Res.tmp rfl Res.nil) rfl (fun w' s => ⟨_, ?_, s⟩)
        refine wq rfl rfl rfl (ov_geq rfl rfl rfl) ?_
        refine wq rfl rfl rfl (ov_assign rfl rfl) ?_
        refine WL.nil (then_normal (WP.ret ?_))
        refine retQ_ret (v := (.bool (decide (((-1) : Int) ≥ 0)))) Tryz.results21 (Res.tmp rfl Res.nil) rfl (fun w' s => ⟨_, ?_, s⟩)
        refine wq rfl rfl rfl (ov_assign rfl rfl) ?_
        refine WL.nil (then_normal ?_)
        exact ⟨(decide (((-1) : Int) ≥ 0)), (Sub.cons rfl (Sub.cons rfl (Sub.cons rfl (Sub.cons rfl (Sub.cons rfl (Sub.cons rfl (Sub.cons rfl (Sub.cons rfl (Sub.cons rfl (Sub.nil _)))))))))), fun w' s => s, hm⟩
      ·
       rintro g' S' ⟨c2, hsub4, hS4, hm⟩
       refine WP.sub hsub4 (WP.weaken hS4 ?_)
       replace hm := (congrFun hk2 c2).symm.trans hm
       refine WP.seq (WP.seq (WP.region ?_))
       refine wq rfl rfl rfl (ov_move rfl rfl) ?_
       refine wq rfl rfl rfl (ov_move rfl rfl) ?_
       refine wq rfl rfl rfl (ov_move rfl rfl) ?_
       obtain ⟨r7, e9, hm⟩ := bind_some hm
       refine WL.quiet (Runs.free rfl) rfl rfl (oq_con (r := (.bool r7)) Tryz.call24 rfl rfl (fun w' s => ⟨_, (slices_Contains_intint_con r3.1 i1 ao2 cap2  w' H3 s.hold h2 hc3 hG r7 e9)⟩)) ?_
       refine wq rfl rfl rfl (ov_bneq Tryz.underlying4 rfl rfl rfl) ?_
       refine WL.nil (then_normal ?_)
       refine WP.cond rfl (fun hc11 => ?_) (fun hc11 => ?_)
       ·
        replace hm := ite_t hc11 hm
        refine WP.seq (WP.region ?_)
        refine wq rfl rfl rfl (ov_assign rfl rfl) ?_
        refine WL.nil (then_normal (WP.ret (then_ret (block_ret (then_ret (then_ret (block_ret (then_ret ?_))))))))
        obtain rfl := Option.some.inj hm
        refine retQ_ret Tryz.results5 (Res.tmp rfl Res.nil) rfl (fun w' s => ⟨s.below, ?_⟩)
        exact rfl
       ·
        replace hm := ite_f hc11 hm
        refine WP.skip (then_normal (WP.region ?_))
        refine wq rfl rfl rfl (ov_move rfl rfl) ?_
        refine wq rfl rfl rfl (ov_load_box (i := 0) Tryz.isAgg47 rfl rfl rfl rfl) ?_
        have rl3 : RL H3 (encSl encBool) ([r5] : List (List Bool)) [(.slice ao4 r5.length cap4)] := RL.cons (cs := [(.slice ao4 r5.length cap4)]) (xs := []) ⟨ao4, cap4, rfl, h3, hc7⟩ (RL.nil _ _)
        refine WL.step (Runs.free rfl) rfl rfl (os_buildSlice (cs := [(.slice ao4 r5.length cap4)]) (E := 47) (sz := 1) rfl rfl (fun _ => by kernel_rfl) rfl (by decide) (fun b3 => ?_))
        obtain ⟨l2, e10, hm⟩ := bind_some hm
        refine WL.step (Runs.free rfl) rfl rfl (os_app (i := 2) (j := 0) (En := (encSl encBool)) (xs := xs1) (ys := [(.slice ao4 r5.length cap4)]) Tryz.underlying46 (by kernel_rfl : (Tryz.prog.info? 47).map (fun i => (i.zero, i.size, i.bytes)) = some (some (.slice none 0 0), ((encSl encBool)).size, 24)) rfl (by decide) rfl rfl rfl rfl rfl rfl rl2 rl3 e10 (fun ao6 cap6 rl4 => ?_))
        refine wq rfl rfl rfl (ov_assign rfl rfl) ?_
        refine WL.nil (block_normal (then_normal (WP.region ?_)))
        refine wq rfl rfl rfl (ov_add rfl rfl rfl) ?_
        refine wq rfl rfl rfl (ov_move rfl rfl) ?_
        refine WL.nil (then_normal ?_)
        exact ⟨H3, (IntKind.wrap .i64 (i1 + 1)), (l1 ++ ([r5] : List (List Bool))), ao6, cap6, (xs1 ++ [(.slice ao4 r5.length cap4)]), (hle2.trans hle3), rl4, (Sub.cons rfl (Sub.cons rfl (Sub.cons rfl (Sub.cons rfl (Sub.cons rfl (Sub.cons rfl (Sub.nil _))))))), fun w' s => (s.select [2, 3] (by decide) rfl), hm⟩
     ·
      replace hm := ite_f hc6 hm
      refine WP.exit (then_exit (then_exit (block_here (then_normal ?_))))
      exact ⟨H2, hle2, (Sub.cons rfl (Sub.cons rfl (Sub.cons rfl (Sub.nil _)))), fun w' s => (s.select [1] (by decide) rfl), hm⟩
   ·
    rintro g' S' ⟨H4, hle4, hsub5, hS5, hm⟩
    refine WP.sub hsub5 (WP.weaken hS5 ?_)
    replace hm := hk1.symm.trans hm
    replace h2 := h2.mono hle4
    replace h1 := h1.mono hle4
    replace hG := hG.mono hle4
    refine WP.seq (WP.region ?_)
    refine wq rfl rfl rfl (ov_move rfl rfl) ?_
    refine wq rfl rfl rfl (ov_makeFunc' (first := []) rfl rfl rfl) ?_
    refine WL.step (Runs.free rfl) rfl rfl (os_inline (cap := []) (vs := [(.slice ao2 r3.1.length cap2), (.func (.func 26) #[] #[(pB b1 0)])]) Tryz.call25 rfl rfl rfl Tryz.func25 rfl 9 Tryz.ntmps25 rfl (fun w' s => ?_))
    refine WP.seq (WP.region ?_)
    refine wq rfl rfl rfl (ov_assign rfl rfl) ?_
    refine WL.nil (then_normal (WP.seq (WP.region ?_)))
    refine wq rfl rfl rfl (ov_move rfl rfl) ?_
    refine wq rfl rfl rfl (ov_move rfl rfl) ?_
    refine WL.step (Runs.free rfl) rfl rfl (os_inline (cap := []) (vs := [(.slice ao2 r3.1.length cap2), (.func (.func 26) #[] #[(pB b1 0)])]) Tryz.call57 rfl rfl rfl Tryz.func57 rfl 19 Tryz.ntmps57 rfl (fun w' s => ?_))
    refine WP.seq (WP.region ?_)
    refine wq rfl rfl rfl (ov_assign rfl rfl) ?_
    refine WL.nil (then_normal ?_)
    obtain ⟨k4, hk4, hm⟩ := joinK_some hm
    refine WP.seq_join (fun g' S' => Sub [(1000000007, (.bool false))] g' ∧ (∀ w', S' w' → St w H [.blk b1 24 [(.int .i64 p_s.actuators), (.slice ao1 p_s.steps.length cap1)]] H4 w') ∧ k4 = some r) ?_ ?_
    ·
     skip
     refine WP.seq (WP.region ?_)
     refine wq rfl rfl rfl (ov_move rfl rfl) ?_
     refine wq rfl rfl rfl (ov_len_slice Tryz.underlying42 rfl rfl) ?_
     refine wq rfl rfl rfl (ov_move rfl rfl) ?_
     refine WL.nil (then_normal (WP.block ?_))
     refine WP.loop (fun m3 g' S' => ∃ (i3 : Int), Sub [(0, (.slice ao2 r3.1.length cap2)), (1, (.func (.func 26) #[] #[(pB b1 0)])), (7, (.int .i64 (r3.1.length : Int))), (8, (.int .i64 i3)), (1000000007, (.bool false))] g' ∧ (∀ w', S' w' → St w H [.blk b1 24 [(.int .i64 p_s.actuators), (.slice ao1 p_s.steps.length cap1)]] H4 w') ∧ law14_SequenceRepeats_loop3 p_s r3 k4 m3 i3 = some r) ((Int.toNat ((r3.1.length : Int) - 0) + 1)) ⟨0, (Sub.cons rfl (Sub.cons rfl (Sub.cons rfl (Sub.cons rfl (Sub.cons rfl (Sub.nil _)))))), fun w' s => s, hm⟩ ?_ ?_
     ·
      rintro g' S' ⟨_, _, _, hm⟩
      exact none_some hm
     ·
      rintro m3 g' S' ⟨i3, hsub6, hS6, hm⟩
      refine WP.sub hsub6 (WP.weaken hS6 ?_)
      rw [law14_SequenceRepeats_loop3] at hm
      refine WP.seq (WP.region ?_)
      refine wq rfl rfl rfl (ov_lss rfl rfl rfl) ?_
      refine WL.nil (then_normal (WP.seq ?_))
      refine WP.cond rfl (fun hc12 => ?_) (fun hc12 => ?_)
      ·
       replace hm := ite_t hc12 hm
       refine WP.skip (then_normal (WP.seq (WP.block (WP.seq (WP.region ?_)))))
       refine wq rfl rfl rfl (ov_move rfl rfl) ?_
       refine wq rfl rfl rfl (ov_assign rfl rfl) ?_
       refine WL.nil (then_normal (WP.seq (WP.region ?_)))
       refine wq rfl rfl rfl (ov_move rfl rfl) ?_
       refine wq rfl rfl rfl (ov_move rfl rfl) ?_
       refine wq rfl rfl rfl (ov_move rfl rfl) ?_
       obtain ⟨x2, e11, hm⟩ := bind_some hm
       obtain ⟨h10, h11, h12, cs2, h13, h14⟩ := h2.get e11 (by decide)
       obtain rfl : cs2 = [(.int .i64 x2)] := h13
       refine wq rfl rfl rfl (ov_indexAddr Tryz.underlying42 Tryz.sizeOf3 rfl rfl rfl h10 h11 h12) ?_
       refine wq rfl rfl rfl (ov_load_elem (v := (.int .i64 x2)) Tryz.isAgg3 rfl rfl h14) ?_
       refine WL.step (Runs.free rfl) rfl rfl (os_inline (cap := [(pB b1 0)]) (vs := [(.int .i64 x2)]) Tryz.call26 rfl rfl rfl Tryz.func26 rfl 13 Tryz.ntmps26 rfl (fun w' s => ?_))
       refine WP.seq (WP.region ?_)
       refine wq rfl rfl rfl (ov_assign rfl rfl) ?_
       refine WL.nil (then_normal (WP.seq (WP.region ?_)))
       refine wq rfl rfl rfl (ov_move rfl rfl) ?_
       refine wq rfl rfl rfl (ov_lss rfl rfl rfl) ?_
       refine wq rfl rfl rfl (ov_move rfl rfl) ?_
       refine WL.cut_bool 6 12 (x := ((decide (x2 < 1)) || (decide (x2 ≥ (p_s.steps.length : Int))))) ?_ ?_
       ·
        rcases Bool.eq_false_or_eq_true (decide (x2 < 1)) with hc13 | hc13
        ·
         skip
         refine WL.idle (Idle.no rfl rfl rfl hc13) rfl rfl ?_
         refine WL.idle (Idle.no rfl rfl rfl hc13) rfl rfl ?_
         refine WL.idle (Idle.no rfl rfl rfl hc13) rfl rfl ?_
         refine WL.idle (Idle.no rfl rfl rfl hc13) rfl rfl ?_
         refine WL.idle (Idle.no rfl rfl rfl hc13) rfl rfl ?_
         refine wq rfl rfl rfl (ov_pick_true rfl (guard_eq rfl hc13) rfl) ?_
         exact WL.nil ⟨Sub.cons' rfl (congrArg Value.bool (orT hc13)) (Sub.skip rfl (Sub.skip rfl (Sub.skip rfl (Sub.skip rfl (Sub.skip rfl (Sub.skip rfl (Sub.refl _))))))), fun _ s => s⟩
        ·
         skip
         refine WL.quiet (Runs.yes rfl rfl rfl hc13) rfl rfl (OV.quiet (ov_move rfl rfl)) ?_
         refine WL.quiet (Runs.yes rfl rfl rfl hc13) rfl rfl (OV.quiet (ov_fieldAddr Tryz.underlying24 rfl rfl rfl Tryz.sizeOf22 rfl rfl)) ?_
         refine WL.quiet (Runs.yes rfl rfl rfl hc13) rfl rfl (OV.quiet (ov_load_box (i := 0) Tryz.isAgg22 rfl rfl rfl rfl)) ?_
         refine WL.quiet (Runs.yes rfl rfl rfl hc13) rfl rfl (OV.quiet (ov_len_slice Tryz.underlying22 rfl rfl)) ?_
         refine WL.quiet (Runs.yes rfl rfl rfl hc13) rfl rfl (OV.quiet (ov_geq rfl rfl rfl)) ?_
         refine wq rfl rfl rfl (ov_pick_false rfl (guard_eq rfl hc13) rfl) ?_
         exact WL.nil ⟨Sub.cons' rfl (congrArg Value.bool (orF hc13)) (Sub.skip rfl (Sub.skip rfl (Sub.skip rfl (Sub.skip rfl (Sub.skip rfl (Sub.skip rfl (Sub.refl _))))))), fun _ s => s⟩
       refine wq rfl rfl rfl (ov_assign rfl rfl) ?_
       refine WL.nil (then_normal (WP.ret ?_))
       refine retQ_ret (v := (.bool ((decide (x2 < 1)) || (decide (x2 ≥ (p_s.steps.length : Int)))))) Tryz.results26 (Res.tmp rfl Res.nil) rfl (fun w' s => ⟨_, ?_, s⟩)
       refine WL.nil (then_normal ?_)
       refine WP.cond rfl (fun hc14 => ?_) (fun hc14 => ?_)
       ·
        replace hm := ite_t hc14 hm
        refine WP.seq (WP.region ?_)
        refine wq rfl rfl rfl (ov_move rfl rfl) ?_
        refine wq rfl rfl rfl (ov_assign rfl rfl) ?_
        refine WL.nil (then_normal (WP.ret (block_ret (then_ret (then_ret (block_ret (then_ret ?_)))))))
        refine retQ_ret (v := (.int .i64 i3)) Tryz.results57 (Res.tmp rfl Res.nil) rfl (fun w' s => ⟨_, ?_, s⟩)
        refine wq rfl rfl rfl (ov_geq rfl rfl rfl) ?_
        refine wq rfl rfl rfl (ov_assign rfl rfl) ?_
        refine WL.nil (then_normal (WP.ret ?_))
        refine retQ_ret (v := (.bool (decide (i3 ≥ 0)))) Tryz.results25 (Res.tmp rfl Res.nil) rfl (fun w' s => ⟨_, ?_, s⟩)
        refine wq rfl rfl rfl (ov_not rfl rfl) ?_
        refine wq rfl rfl rfl (ov_move rfl rfl) ?_
        obtain ⟨c3, e12, hm⟩ := bind_some hm
        refine WL.cut_bool 2 53 (x := c3) ?_ ?_
        ·
         rcases Bool.eq_false_or_eq_true (!(decide (i3 ≥ 0))) with hc15 | hc15
         ·
          skip
          replace hm := ite_t hc15 e12
          obtain ⟨r8, e13, hm⟩ := bind_some hm
          refine WL.quiet (Runs.yes rfl rfl rfl hc15) rfl rfl (oq_con (r := (.bool r8)) Tryz.call12 rfl rfl (fun w' s => ⟨_, (law14_awake_con   w' H4 s.hold hG r8 e13)⟩)) ?_
          refine wq rfl rfl rfl (ov_pick_true rfl (guard_eq rfl hc15) rfl) ?_
          exact WL.nil ⟨Sub.cons' rfl (congrArg Value.bool (Option.some.inj hm)) (Sub.skip rfl (Sub.skip rfl (Sub.refl _))), fun _ s => s⟩
         ·
          skip
          replace hm := ite_f hc15 e12
          refine WL.idle (Idle.no rfl rfl rfl hc15) rfl rfl ?_
          refine wq rfl rfl rfl (ov_pick_false rfl (guard_eq rfl hc15) rfl) ?_
          exact WL.nil ⟨Sub.cons' rfl (congrArg Value.bool (Option.some.inj hm)) (Sub.skip rfl (Sub.skip rfl (Sub.refl _))), fun _ s => s⟩
        refine wq rfl rfl rfl (ov_assign rfl rfl) ?_
        refine WL.nil (then_normal (WP.ret ?_))
        obtain rfl := Option.some.inj hm
        refine retQ_ret Tryz.results5 (Res.tmp rfl Res.nil) rfl (fun w' s => ⟨s.below, ?_⟩)
        exact rfl
       ·
        replace hm := ite_f hc14 hm
        refine WP.skip (block_normal (then_normal (WP.region ?_)))
        refine wq rfl rfl rfl (ov_add rfl rfl rfl) ?_
        refine wq rfl rfl rfl (ov_move rfl rfl) ?_
        refine WL.nil (then_normal ?_)
        exact ⟨(IntKind.wrap .i64 (i3 + 1)), (Sub.cons rfl (Sub.cons rfl (Sub.cons rfl (Sub.cons rfl (Sub.cons rfl (Sub.nil _)))))), fun w' s => s, hm⟩
      ·
       replace hm := ite_f hc12 hm
       refine WP.exit (then_exit (then_exit (block_here (then_normal ?_))))
       exact ⟨(Sub.cons rfl (Sub.nil _)), fun w' s => s, hm⟩
    ·
     rintro g' S' ⟨hsub7, hS7, hm⟩
     refine WP.sub hsub7 (WP.weaken hS7 ?_)
     replace hm := hk4.symm.trans hm
     refine WP.seq (WP.region ?_)
     refine wq rfl rfl rfl (ov_assign rfl rfl) ?_
     refine WL.nil (then_normal (WP.ret ?_))
     refine retQ_ret (v := (.int .i64 (-1))) Tryz.results57 (Res.tmp rfl Res.nil) rfl (fun w' s => ⟨_, ?_, s⟩)
     refine wq rfl rfl rfl (ov_geq rfl rfl rfl) ?_
     refine wq rfl rfl rfl (ov_assign rfl rfl) ?_
     refine WL.nil (then_normal (WP.ret ?_))
     refine retQ_ret (v := (.bool (decide (((-1) : Int) ≥ 0)))) Tryz.results25 (Res.tmp rfl Res.nil) rfl (fun w' s => ⟨_, ?_, s⟩)
     refine wq rfl rfl rfl (ov_not rfl rfl) ?_
     refine wq rfl rfl rfl (ov_move rfl rfl) ?_
     obtain ⟨c4, e14, hm⟩ := bind_some hm
     refine WL.cut_bool 2 53 (x := c4) ?_ ?_
     ·
      rcases Bool.eq_false_or_eq_true (!(decide (((-1) : Int) ≥ 0))) with hc16 | hc16
      ·
       skip
       replace hm := ite_t hc16 e14
       obtain ⟨r9, e15, hm⟩ := bind_some hm
       refine WL.quiet (Runs.yes rfl rfl rfl hc16) rfl rfl (oq_con (r := (.bool r9)) Tryz.call12 rfl rfl (fun w' s => ⟨_, (law14_awake_con   w' H4 s.hold hG r9 e15)⟩)) ?_
       refine wq rfl rfl rfl (ov_pick_true rfl (guard_eq rfl hc16) rfl) ?_
       exact WL.nil ⟨Sub.cons' rfl (congrArg Value.bool (Option.some.inj hm)) (Sub.skip rfl (Sub.skip rfl (Sub.refl _))), fun _ s => s⟩
      ·
       skip
       replace hm := ite_f hc16 e14
       refine WL.idle (Idle.no rfl rfl rfl hc16) rfl rfl ?_
       refine wq rfl rfl rfl (ov_pick_false rfl (guard_eq rfl hc16) rfl) ?_
       exact WL.nil ⟨Sub.cons' rfl (congrArg Value.bool (Option.some.inj hm)) (Sub.skip rfl (Sub.skip rfl (Sub.refl _))), fun _ s => s⟩
     refine wq rfl rfl rfl (ov_assign rfl rfl) ?_
     refine WL.nil (then_normal (WP.ret ?_))
     obtain rfl := Option.some.inj hm
     refine retQ_ret Tryz.results5 (Res.tmp rfl Res.nil) rfl (fun w' s => ⟨s.below, ?_⟩)
     exact rfl

end Go.Proofs.YtbhcojijafbdiaaGreatDoor.W
