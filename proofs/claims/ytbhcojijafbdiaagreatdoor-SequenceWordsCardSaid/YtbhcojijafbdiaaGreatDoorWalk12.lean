/- The walks. Written by our own program gen.py; Lean checks it. -/
import Derived.Test.YtbhcojijafbdiaaGreatDoorPlain
import Derived.Test.YtbhcojijafbdiaaGreatDoorEqs
import Derived.Test.YtbhcojijafbdiaaGreatDoorProg
import Derived.Test.YtbhcojijafbdiaaGreatDoorExt
import Derived.Test.YtbhcojijafbdiaaGreatDoorClone
import Derived.Test.YtbhcojijafbdiaaGreatDoorCloneS
import Derived.Test.YtbhcojijafbdiaaGreatDoorWalk5
import Derived.Test.YtbhcojijafbdiaaGreatDoorWalk6
import Derived.Test.YtbhcojijafbdiaaGreatDoorWalk7
set_option linter.unusedVariables false
set_option maxRecDepth 100000
set_option maxHeartbeats 4000000
namespace Go.Proofs.YtbhcojijafbdiaaGreatDoor.W
open Go Go.RowKit
theorem law14_SequenceWords_con (p_s : Sequence) (p_which : Int) (ao1 : Option Addr) (cap1 : Nat) (w : World) (H : Heap) (hH : Le H (hp w)) (h1 : SL H encStep ao1 p_s.steps) (hc1 : p_s.steps.length ≤ cap1) (hG : Glob H) (r : Bool) (hm : law14_SequenceWords p_s p_which = some r) :
  Con Tryz.prog 4 [(.agg #[(.int .i64 p_s.actuators), (.slice ao1 p_s.steps.length cap1)]), (.int .u8 p_which)] w H (fun v _ => v = (.bool r)) := by
 unfold law14_SequenceWords at hm
 refine con_of hH Tryz.func4 rfl 140 Tryz.ntmps4 rfl ?_
 refine WP.seq (WP.region ?_)
 refine WL.step (Runs.free rfl) rfl rfl (os_box (cs := [(.int .i64 p_s.actuators), (.slice ao1 p_s.steps.length cap1)]) rfl rfl rfl (fun b1 => ?_))
 refine wq rfl rfl rfl (ov_assign rfl rfl) ?_
 refine WL.nil (then_normal (WP.seq (WP.seq (WP.region ?_))))
 refine wq rfl rfl rfl (ov_load_whole (i := 0) Tryz.isAgg24 Tryz.sizeOf24 rfl rfl rfl rfl) ?_
 obtain ⟨r1, e1, hm⟩ := bind_some hm
 refine WL.quiet (Runs.free rfl) rfl rfl (oq_con (r := (.bool r1)) Tryz.call15 rfl rfl (fun w' s => ⟨_, (law14_right_con p_s ao1 cap1  w' H s.hold h1 hc1 hG r1 e1)⟩)) ?_
 refine wq rfl rfl rfl (ov_not rfl rfl) ?_
 refine WL.nil (then_normal ?_)
 refine WP.cond rfl (fun hc2 => ?_) (fun hc2 => ?_)
 ·
  replace hm := ite_t hc2 hm
  refine WP.seq (WP.region ?_)
  obtain ⟨r2, e2, hm⟩ := bind_some hm
  refine WL.quiet (Runs.free rfl) rfl rfl (oq_con (r := (.bool r2)) Tryz.call12 rfl rfl (fun w' s => ⟨_, (law14_awake_con   w' H s.hold hG r2 e2)⟩)) ?_
  refine wq rfl rfl rfl (ov_assign rfl rfl) ?_
  refine WL.nil (then_normal (WP.ret (then_ret ?_)))
  obtain rfl := Option.some.inj hm
  refine retQ_ret Tryz.results4 (Res.tmp rfl Res.nil) rfl (fun w' s => ⟨s.below, ?_⟩)
  exact rfl
 ·
  replace hm := ite_f hc2 hm
  refine WP.skip (then_normal (WP.seq (WP.region ?_)))
  refine wq rfl rfl rfl (ov_load_whole (i := 0) Tryz.isAgg24 Tryz.sizeOf24 rfl rfl rfl rfl) ?_
  obtain ⟨r3, e3, hm⟩ := bind_some hm
  refine WL.step (Runs.free rfl) rfl rfl (os_con Tryz.call16 rfl rfl (fun w' s => (sequence_Word_con p_s ao1 cap1  w' H s.hold h1 hc1 hG r3 e3)) (fun rr1 H1 hle1 hR1 => ?_))
  replace h1 := h1.mono hle1
  replace hG := hG.mono hle1
  obtain ⟨ao2, cap2, rfl, h2, hc3⟩ := hR1
  refine wq rfl rfl rfl (ov_move rfl rfl) ?_
  refine wq rfl rfl rfl (ov_extract rfl rfl rfl) ?_
  refine wq rfl rfl rfl (ov_extract rfl rfl rfl) ?_
  refine wq rfl rfl rfl (ov_assign rfl rfl) ?_
  refine wq rfl rfl rfl (ov_assign rfl rfl) ?_
  refine WL.nil (then_normal (WP.seq (WP.region ?_)))
  refine wq rfl rfl rfl (ov_load_whole (i := 0) Tryz.isAgg24 Tryz.sizeOf24 rfl rfl rfl rfl) ?_
  refine wq rfl rfl rfl (ov_move rfl rfl) ?_
  obtain ⟨r4, e4, hm⟩ := bind_some hm
  refine WL.quiet (Runs.free rfl) rfl rfl (oq_con (r := (.tuple #[(.bool r4.1), (.int .i64 r4.2)])) Tryz.call13 rfl rfl (fun w' s => ⟨_, (sequence_Accepts_con p_s r3.1 ao1 cap1 ao2 cap2  w' H1 s.hold h1 hc1 h2 hc3 hG r4 e4)⟩)) ?_
  refine wq rfl rfl rfl (ov_move rfl rfl) ?_
  refine wq rfl rfl rfl (ov_extract rfl rfl rfl) ?_
  refine wq rfl rfl rfl (ov_extract rfl rfl rfl) ?_
  refine wq rfl rfl rfl (ov_assign rfl rfl) ?_
  refine wq rfl rfl rfl (ov_assign rfl rfl) ?_
  refine WL.nil (then_normal (WP.seq (WP.seq (WP.region ?_))))
  refine wq rfl rfl rfl (ov_move rfl rfl) ?_
  refine wq rfl rfl rfl (ov_move rfl rfl) ?_
  refine wq rfl rfl rfl (ov_add rfl rfl rfl) ?_
  refine wq rfl rfl rfl (ov_neq rfl rfl rfl) ?_
  refine wq rfl rfl rfl (ov_move rfl rfl) ?_
  refine WL.cut_bool 3 41 (x := (((IntKind.wrap .i64 (r3.2 + r4.2)) != 0) || (!r4.1))) ?_ ?_
  ·
   rcases Bool.eq_false_or_eq_true ((IntKind.wrap .i64 (r3.2 + r4.2)) != 0) with hc4 | hc4
   ·
    skip
    refine WL.idle (Idle.no rfl rfl rfl hc4) rfl rfl ?_
    refine WL.idle (Idle.no rfl rfl rfl hc4) rfl rfl ?_
    refine wq rfl rfl rfl (ov_pick_true rfl (guard_eq rfl hc4) rfl) ?_
    exact WL.nil ⟨Sub.cons' rfl (congrArg Value.bool (orT hc4)) (Sub.skip rfl (Sub.skip rfl (Sub.skip rfl (Sub.refl _)))), fun _ s => s⟩
   ·
    skip
    refine WL.quiet (Runs.yes rfl rfl rfl hc4) rfl rfl (OV.quiet (ov_move rfl rfl)) ?_
    refine WL.quiet (Runs.yes rfl rfl rfl hc4) rfl rfl (OV.quiet (ov_not rfl rfl)) ?_
    refine wq rfl rfl rfl (ov_pick_false rfl (guard_eq rfl hc4) rfl) ?_
    exact WL.nil ⟨Sub.cons' rfl (congrArg Value.bool (orF hc4)) (Sub.skip rfl (Sub.skip rfl (Sub.skip rfl (Sub.refl _)))), fun _ s => s⟩
  refine wq rfl rfl rfl (ov_move rfl rfl) ?_
  refine WL.cut_bool 4 46 (x := ((((IntKind.wrap .i64 (r3.2 + r4.2)) != 0) || (!r4.1)) || (decide ((r3.1.length : Int) < 2)))) ?_ ?_
  ·
   rcases Bool.eq_false_or_eq_true (((IntKind.wrap .i64 (r3.2 + r4.2)) != 0) || (!r4.1)) with hc5 | hc5
   ·
    skip
    refine WL.idle (Idle.no rfl rfl rfl hc5) rfl rfl ?_
    refine WL.idle (Idle.no rfl rfl rfl hc5) rfl rfl ?_
    refine WL.idle (Idle.no rfl rfl rfl hc5) rfl rfl ?_
    refine wq rfl rfl rfl (ov_pick_true rfl (guard_eq rfl hc5) rfl) ?_
    exact WL.nil ⟨Sub.cons' rfl (congrArg Value.bool (orT hc5)) (Sub.skip rfl (Sub.skip rfl (Sub.skip rfl (Sub.skip rfl (Sub.refl _))))), fun _ s => s⟩
   ·
    skip
    refine WL.quiet (Runs.yes rfl rfl rfl hc5) rfl rfl (OV.quiet (ov_move rfl rfl)) ?_
    refine WL.quiet (Runs.yes rfl rfl rfl hc5) rfl rfl (OV.quiet (ov_len_slice Tryz.underlying25 rfl rfl)) ?_
    refine WL.quiet (Runs.yes rfl rfl rfl hc5) rfl rfl (OV.quiet (ov_lss rfl rfl rfl)) ?_
    refine wq rfl rfl rfl (ov_pick_false rfl (guard_eq rfl hc5) rfl) ?_
    exact WL.nil ⟨Sub.cons' rfl (congrArg Value.bool (orF hc5)) (Sub.skip rfl (Sub.skip rfl (Sub.skip rfl (Sub.skip rfl (Sub.refl _))))), fun _ s => s⟩
  refine WL.nil (then_normal ?_)
  refine WP.cond rfl (fun hc6 => ?_) (fun hc6 => ?_)
  ·
   replace hm := ite_t hc6 hm
   refine WP.seq (WP.region ?_)
   refine wq rfl rfl rfl (ov_assign rfl rfl) ?_
   refine WL.nil (then_normal (WP.ret (then_ret ?_)))
   obtain rfl := Option.some.inj hm
   refine retQ_ret Tryz.results4 (Res.tmp rfl Res.nil) rfl (fun w' s => ⟨s.below, ?_⟩)
   exact rfl
  ·
   replace hm := ite_f hc6 hm
   refine WP.skip (then_normal (WP.seq (WP.region ?_)))
   refine wq rfl rfl rfl (ov_move rfl rfl) ?_
   refine wq rfl rfl rfl (ov_convert_int Tryz.underlying5 Tryz.underlying3 rfl rfl) ?_
   refine wq rfl rfl rfl (ov_move rfl rfl) ?_
   refine wq rfl rfl rfl (ov_len_slice Tryz.underlying25 rfl rfl) ?_
   refine wq rfl rfl rfl (ov_sub rfl rfl rfl) ?_
   obtain ⟨u1, e5, hm⟩ := bind_some hm
   replace e5 := guardO_some e5
   refine wq rfl rfl rfl (ov_rem rfl rfl rfl (by simpa using e5)) ?_
   refine wq rfl rfl rfl (ov_assign rfl rfl) ?_
   refine WL.nil (then_normal (WP.seq (WP.region ?_)))
   refine wq rfl rfl rfl (ov_assign rfl rfl) ?_
   refine wq rfl rfl rfl (ov_assign rfl rfl) ?_
   refine WL.nil (then_normal ?_)
   obtain ⟨k1, hk1, hm⟩ := joinK_some hm
   refine WP.seq_join (fun g' S' => ∃ (c2 : Bool), Sub [(2, (pB b1 0)), (5, (.slice ao2 r3.1.length cap2)), (9, (.int .i64 (Int.tmod (IntKind.wrap .i64 p_which) (IntKind.wrap .i64 ((r3.1.length : Int) - 1))))), (11, (.bool c2)), (1000000007, (.bool false))] g' ∧ (∀ w', S' w' → St w H [.blk b1 24 [(.int .i64 p_s.actuators), (.slice ao1 p_s.steps.length cap1)]] H1 w') ∧ k1 c2 = some r) ?_ ?_
   ·
    skip
    refine WP.seq (WP.region ?_)
    refine wq rfl rfl rfl (ov_fieldAddr Tryz.underlying24 rfl rfl rfl Tryz.sizeOf22 rfl rfl) ?_
    refine wq rfl rfl rfl (ov_load_box (i := 0) Tryz.isAgg22 rfl rfl rfl rfl) ?_
    refine wq rfl rfl rfl (ov_len_slice Tryz.underlying22 rfl rfl) ?_
    refine wq rfl rfl rfl (ov_move rfl rfl) ?_
    refine WL.nil (then_normal (WP.block ?_))
    refine WP.loop (fun m1 g' S' => ∃ (i1 : Int) (c1 : Bool) (i2 : Int), Sub [(2, (pB b1 0)), (5, (.slice ao2 r3.1.length cap2)), (9, (.int .i64 (Int.tmod (IntKind.wrap .i64 p_which) (IntKind.wrap .i64 ((r3.1.length : Int) - 1))))), (10, (.int .i64 i1)), (11, (.bool c1)), (54, (.slice ao1 p_s.steps.length cap1)), (55, (.int .i64 (p_s.steps.length : Int))), (56, (.int .i64 i2)), (1000000007, (.bool false))] g' ∧ (∀ w', S' w' → St w H [.blk b1 24 [(.int .i64 p_s.actuators), (.slice ao1 p_s.steps.length cap1)]] H1 w') ∧ law14_SequenceWords_loop1 p_s p_which r3 k1 m1 i1 c1 i2 = some r) ((Int.toNat ((p_s.steps.length : Int) - 0) + 1)) ⟨0, false, 0, (Sub.cons rfl (Sub.cons rfl (Sub.cons rfl (Sub.cons rfl (Sub.cons rfl (Sub.cons rfl (Sub.cons rfl (Sub.cons rfl (Sub.cons rfl (Sub.nil _)))))))))), fun w' s => s, hm⟩ ?_ ?_
    ·
     rintro g' S' ⟨_, _, _, _, _, hm⟩
     exact none_some hm
    ·
     rintro m1 g' S' ⟨i1, c1, i2, hsub1, hS1, hm⟩
     refine WP.sub hsub1 (WP.weaken hS1 ?_)
     rw [law14_SequenceWords_loop1] at hm
     refine WP.seq (WP.region ?_)
     refine wq rfl rfl rfl (ov_lss rfl rfl rfl) ?_
     refine WL.nil (then_normal (WP.seq ?_))
     refine WP.cond rfl (fun hc7 => ?_) (fun hc7 => ?_)
     ·
      replace hm := ite_t hc7 hm
      refine WP.skip (then_normal (WP.seq (WP.block (WP.seq (WP.region ?_)))))
      obtain ⟨x1, e6, hm⟩ := bind_some hm
      obtain ⟨h4, h5, h6, cs1, h7, h8⟩ := h1.get e6 (by decide)
      obtain ⟨ao3, cap3, rfl, h3, hc8⟩ := h7
      refine wq rfl rfl rfl (ov_indexAddr Tryz.underlying22 Tryz.sizeOf37 rfl rfl rfl h4 h5 h6) ?_
      refine wq rfl rfl rfl (ov_load_elems (vs := [(.slice ao3 x1.strokes.length cap3), (.int .i64 x1.wait)]) Tryz.isAgg37 Tryz.sizeOf37 rfl rfl rfl h8 h6) ?_
      refine WL.step (Runs.free rfl) rfl rfl (os_alloc (cs := [(.slice none 0 0), (.int .i64 0)]) Tryz.zeroValue37 rfl rfl (fun b2 => ?_))
      refine WL.step0 (Runs.free rfl) rfl (os_store (i := 0) (vs := [(.slice ao3 x1.strokes.length cap3), (.int .i64 x1.wait)]) (cs' := [(.slice ao3 x1.strokes.length cap3), (.int .i64 x1.wait)]) Tryz.sizeOf37 rfl rfl rfl rfl rfl rfl rfl rfl rfl ?_)
      refine WL.nil (then_normal (WP.seq (WP.region ?_)))
      refine wq rfl rfl rfl (ov_move rfl rfl) ?_
      refine wq rfl rfl rfl (ov_fieldAddr Tryz.underlying37 rfl rfl rfl Tryz.sizeOf25 rfl rfl) ?_
      refine wq rfl rfl rfl (ov_load_box (i := 0) Tryz.isAgg25 rfl rfl rfl rfl) ?_
      refine wq rfl rfl rfl (ov_len_slice Tryz.underlying25 rfl rfl) ?_
      refine wq rfl rfl rfl (ov_add rfl rfl rfl) ?_
      refine wq rfl rfl rfl (ov_assign rfl rfl) ?_
      refine WL.nil (then_normal (WP.region ?_))
      refine wq rfl rfl rfl (ov_move rfl rfl) ?_
      refine wq rfl rfl rfl (ov_move rfl rfl) ?_
      refine WL.cut_bool 5 71 (x := (c1 || ((IntKind.wrap .i64 (i1 + (x1.strokes.length : Int))) == (IntKind.wrap .i64 ((Int.tmod (IntKind.wrap .i64 p_which) (IntKind.wrap .i64 ((r3.1.length : Int) - 1))) + 1))))) ?_ ?_
      ·
       rcases Bool.eq_false_or_eq_true c1 with hc9 | hc9
       ·
        skip
        refine WL.idle (Idle.no rfl rfl rfl hc9) rfl rfl ?_
        refine WL.idle (Idle.no rfl rfl rfl hc9) rfl rfl ?_
        refine WL.idle (Idle.no rfl rfl rfl hc9) rfl rfl ?_
        refine WL.idle (Idle.no rfl rfl rfl hc9) rfl rfl ?_
        refine wq rfl rfl rfl (ov_pick_true rfl (guard_eq rfl hc9) rfl) ?_
        exact WL.nil ⟨Sub.cons' rfl (congrArg Value.bool (orT hc9)) (Sub.skip rfl (Sub.skip rfl (Sub.skip rfl (Sub.skip rfl (Sub.skip rfl (Sub.refl _)))))), fun _ s => s⟩
       ·
        skip
        refine WL.quiet (Runs.yes rfl rfl rfl hc9) rfl rfl (OV.quiet (ov_move rfl rfl)) ?_
        refine WL.quiet (Runs.yes rfl rfl rfl hc9) rfl rfl (OV.quiet (ov_move rfl rfl)) ?_
        refine WL.quiet (Runs.yes rfl rfl rfl hc9) rfl rfl (OV.quiet (ov_add rfl rfl rfl)) ?_
        refine WL.quiet (Runs.yes rfl rfl rfl hc9) rfl rfl (OV.quiet (ov_eql rfl rfl rfl)) ?_
        refine wq rfl rfl rfl (ov_pick_false rfl (guard_eq rfl hc9) rfl) ?_
        exact WL.nil ⟨Sub.cons' rfl (congrArg Value.bool (orF hc9)) (Sub.skip rfl (Sub.skip rfl (Sub.skip rfl (Sub.skip rfl (Sub.skip rfl (Sub.refl _)))))), fun _ s => s⟩
      refine wq rfl rfl rfl (ov_assign rfl rfl) ?_
      refine WL.nil (block_normal (then_normal (WP.region ?_)))
      refine wq rfl rfl rfl (ov_add rfl rfl rfl) ?_
      refine wq rfl rfl rfl (ov_move rfl rfl) ?_
      refine WL.nil (then_normal ?_)
      exact ⟨(IntKind.wrap .i64 (i1 + (x1.strokes.length : Int))), (c1 || ((IntKind.wrap .i64 (i1 + (x1.strokes.length : Int))) == (IntKind.wrap .i64 ((Int.tmod (IntKind.wrap .i64 p_which) (IntKind.wrap .i64 ((r3.1.length : Int) - 1))) + 1)))), (IntKind.wrap .i64 (i2 + 1)), (Sub.cons rfl (Sub.cons rfl (Sub.cons rfl (Sub.cons rfl (Sub.cons rfl (Sub.cons rfl (Sub.cons rfl (Sub.cons rfl (Sub.cons rfl (Sub.nil _)))))))))), fun w' s => (s.select [1] (by decide) rfl), hm⟩
     ·
      replace hm := ite_f hc7 hm
      refine WP.exit (then_exit (then_exit (block_here (then_normal ?_))))
      exact ⟨c1, (Sub.cons rfl (Sub.cons rfl (Sub.cons rfl (Sub.cons rfl (Sub.cons rfl (Sub.nil _)))))), fun w' s => s, hm⟩
   ·
    rintro g' S' ⟨c2, hsub2, hS2, hm⟩
    refine WP.sub hsub2 (WP.weaken hS2 ?_)
    replace hm := (congrFun hk1 c2).symm.trans hm
    refine WP.seq (WP.region ?_)
    refine wq rfl rfl rfl (ov_move rfl rfl) ?_
    obtain ⟨l1, e7, hm⟩ := bind_some hm
    refine WL.step (Runs.free rfl) rfl rfl (os_cloneS rfl rfl h2 hc3 e7 (fun ao4 cap4 xs1 rl1 => ?_))
    refine wq rfl rfl rfl (ov_assign rfl rfl) ?_
    refine WL.nil (then_normal ?_)
    obtain ⟨k2, hk2, hm⟩ := joinK_some hm
    refine WP.seq_join (fun g' S' => ∃ (l2 : (List Stroke)) (ao5 : Option Addr) (cap5 : Nat) (xs2 : List Value), RL H1 encStroke l2 xs2 ∧ Sub [(2, (pB b1 0)), (5, (.slice ao2 r3.1.length cap2)), (9, (.int .i64 (Int.tmod (IntKind.wrap .i64 p_which) (IntKind.wrap .i64 ((r3.1.length : Int) - 1))))), (11, (.bool c2)), (14, (.slice ao5 l2.length cap5)), (1000000007, (.bool false))] g' ∧ (∀ w', S' w' → St w H [.row 40 (encStroke).size l2.length (.slice ao5 l2.length cap5) xs2, .blk b1 24 [(.int .i64 p_s.actuators), (.slice ao1 p_s.steps.length cap1)]] H1 w') ∧ k2 l2 = some r) ?_ ?_
    ·
     skip
     obtain ⟨x2, e8, hm⟩ := bind_some hm
     obtain ⟨h9, h10, h11, cs2, h12, h13⟩ := RL.get rl1 e8
     obtain rfl : cs2 = [(.int .i64 x2.actuator), (.bool x2.out)] := h12
     obtain ⟨x3, e9, hm⟩ := bind_some hm
     obtain ⟨h14, h15, h16, cs3, h17, h18⟩ := RL.get rl1 e9
     obtain rfl : cs3 = [(.int .i64 x3.actuator), (.bool x3.out)] := h17
     refine WP.region_any (S₀ := St w H [.blk b1 24 [(.int .i64 p_s.actuators), (.slice ao1 p_s.steps.length cap1)]] H1) 18 rfl (by kernel_rfl) (fun w' s => (s.select [1] (by decide) rfl)) (fun _ s => s.drew) ?_
     refine tq (i := 0) rfl (by kernel_rfl) rfl rfl rfl (ov_move rfl rfl) ?_
     refine tq (i := 1) rfl (by kernel_rfl) rfl rfl rfl (ov_move rfl rfl) ?_
     refine tq (i := 2) rfl (by kernel_rfl) rfl rfl rfl (ov_move rfl rfl) ?_
     refine tq (i := 3) rfl (by kernel_rfl) rfl rfl rfl (ov_move rfl rfl) ?_
     refine tq (i := 4) rfl (by kernel_rfl) rfl rfl rfl (ov_add rfl rfl rfl) ?_
     refine tq (i := 5) rfl (by kernel_rfl) rfl rfl rfl (ov_move rfl rfl) ?_
     refine tq (i := 6) rfl (by kernel_rfl) rfl rfl rfl (ov_move rfl rfl) ?_
     refine tq (i := 7) rfl (by kernel_rfl) rfl rfl rfl (ov_add rfl rfl rfl) ?_
     refine tq (i := 10) rfl (by kernel_rfl) rfl rfl rfl (ov_move rfl rfl) ?_
     refine tq (i := 11) rfl (by kernel_rfl) rfl rfl rfl (ov_move rfl rfl) ?_
     refine AL.any (rs := [8, 12]) (by kernel_rfl) (by decide) ?_
     refine ALs.cons (i := 8) rfl (Runs.free rfl) rfl rfl ?_ ?_
     ·
      skip
      refine OQ.step (OV.quiet (ov_indexAddr_own (i := 0) Tryz.underlying25 Tryz.sizeOf40 rfl rfl rfl rfl h9 h10)) ?_
      refine ⟨fun w' s => (s.select [1] (by decide) rfl), ?_⟩
      refine AL.any (rs := [9, 12]) (by kernel_rfl) (by decide) ?_
      refine ALs.cons (i := 9) rfl (Runs.free rfl) rfl rfl ?_ ?_
      ·
       skip
       refine OQ.step (OV.quiet (ov_load_owns (i := 0) (vs := [(.int .i64 x2.actuator), (.bool x2.out)]) Tryz.isAgg40 Tryz.sizeOf40 rfl rfl rfl (own_pos h9 h10) rfl (fun j u hu => elem_cell h13 hu))) ?_
       refine ⟨fun w' s => (s.select [1] (by decide) rfl), ?_⟩
       refine AL.any (rs := [12]) (by kernel_rfl) (by decide) ?_
       refine ALs.cons (i := 12) rfl (Runs.free rfl) rfl rfl ?_ ?_
       ·
        skip
        refine OQ.step (OV.quiet (ov_indexAddr_own (i := 0) Tryz.underlying25 Tryz.sizeOf40 rfl rfl rfl rfl h14 h15)) ?_
        refine ⟨fun w' s => (s.select [1] (by decide) rfl), ?_⟩
        refine AL.any (rs := [13]) (by kernel_rfl) (by decide) ?_
        refine ALs.cons (i := 13) rfl (Runs.free rfl) rfl rfl ?_ ?_
        ·
         skip
         refine OQ.step (OV.quiet (ov_load_owns (i := 0) (vs := [(.int .i64 x3.actuator), (.bool x3.out)]) Tryz.isAgg40 Tryz.sizeOf40 rfl rfl rfl (own_pos h14 h15) rfl (fun j u hu => elem_cell h18 hu))) ?_
         refine ⟨fun w' s => (s.select [1] (by decide) rfl), ?_⟩
         refine AL.any (rs := [14]) (by kernel_rfl) (by decide) ?_
         refine ALs.cons (i := 14) rfl (Runs.free rfl) rfl rfl ?_ ?_
         ·
          skip
          refine OQ.step (OV.quiet (ov_indexAddr_own (i := 0) Tryz.underlying25 Tryz.sizeOf40 rfl rfl rfl rfl h14 h15)) ?_
          refine ⟨fun w' s => (s.select [1] (by decide) rfl), ?_⟩
          refine AL.any (rs := [15]) (by kernel_rfl) (by decide) ?_
          refine ALs.cons0 (i := 15) rfl (Runs.free rfl) rfl ?_ ?_
          ·
           skip
           have rl2 := RL.set rl1 (y := x2) (off := 0) (vs := [(.int .i64 x2.actuator), (.bool x2.out)]) e9 h18 rfl (Nat.le_of_ble_eq_true rfl)
           have e10 := at?_set (y := x2) e9
           refine os_store_own (i := 0) (vs := [(.int .i64 x2.actuator), (.bool x2.out)]) Tryz.sizeOf40 rfl rfl rfl rfl (own_pos h14 h15) rfl rfl (elem_le (off := 0) h16 (Nat.le_of_ble_eq_true rfl)) rfl ?_
           generalize hLL : ((r3.1.length : Nat) : Int) = LL
           rw [show r3.1.length = (List.set r3.1 (Int.toNat (Int.tmod (IntKind.wrap .i64 p_which) (IntKind.wrap .i64 ((r3.1.length : Int) - 1)))) x2).length from List.length_set.symm]
           subst hLL
           obtain ⟨h19, h20, h21, cs4, h22, h23⟩ := rl2.get e10
           obtain rfl : cs4 = [(.int .i64 x2.actuator), (.bool x2.out)] := h22
           refine ⟨fun w' s => (s.select [1] (by decide) rfl), ?_⟩
           refine AL.any (rs := [16]) (by kernel_rfl) (by decide) ?_
           refine ALs.cons (i := 16) rfl (Runs.free rfl) rfl rfl ?_ ?_
           ·
            skip
            obtain ⟨x4, e11, hm⟩ := bind_some hm
            obtain ⟨h24, h25, h26, cs5, h27, h28⟩ := RL.get rl2 e11
            obtain rfl : cs5 = [(.int .i64 x4.actuator), (.bool x4.out)] := h27
            refine OQ.step (OV.quiet (ov_indexAddr_own (i := 0) Tryz.underlying25 Tryz.sizeOf40 rfl rfl rfl rfl h24 h25)) ?_
            refine ⟨fun w' s => (s.select [1] (by decide) rfl), ?_⟩
            refine AL.any (rs := [17]) (by kernel_rfl) (by decide) ?_
            refine ALs.cons0 (i := 17) rfl (Runs.free rfl) rfl ?_ ?_
            ·
             skip
             have rl3 := RL.set rl2 (y := x3) (off := 0) (vs := [(.int .i64 x3.actuator), (.bool x3.out)]) e11 h28 rfl (Nat.le_of_ble_eq_true rfl)
             have e12 := at?_set (y := x3) e11
             refine os_store_own (i := 0) (vs := [(.int .i64 x3.actuator), (.bool x3.out)]) Tryz.sizeOf40 rfl rfl rfl rfl (own_pos h24 h25) rfl rfl (elem_le (off := 0) h26 (Nat.le_of_ble_eq_true rfl)) rfl ?_
             rw [show (List.set r3.1 (Int.toNat (Int.tmod (IntKind.wrap .i64 p_which) (IntKind.wrap .i64 ((r3.1.length : Int) - 1)))) x2).length = (List.set (List.set r3.1 (Int.toNat (Int.tmod (IntKind.wrap .i64 p_which) (IntKind.wrap .i64 ((r3.1.length : Int) - 1)))) x2) (Int.toNat (IntKind.wrap .i64 ((Int.tmod (IntKind.wrap .i64 p_which) (IntKind.wrap .i64 ((r3.1.length : Int) - 1))) + 1))) x3).length from List.length_set.symm]
             obtain ⟨h29, h30, h31, cs6, h32, h33⟩ := rl3.get e12
             obtain rfl : cs6 = [(.int .i64 x3.actuator), (.bool x3.out)] := h32
             refine ⟨fun w' s => (s.select [1] (by decide) rfl), ?_⟩
             refine AL.done (by kernel_rfl) ?_
             refine then_normal ?_
             exact ⟨(List.set (List.set r3.1 (Int.toNat (Int.tmod (IntKind.wrap .i64 p_which) (IntKind.wrap .i64 ((r3.1.length : Int) - 1)))) x2) (Int.toNat (IntKind.wrap .i64 ((Int.tmod (IntKind.wrap .i64 p_which) (IntKind.wrap .i64 ((r3.1.length : Int) - 1))) + 1))) x3), ao4, cap4, (spl (spl xs1 (Int.toNat (Int.tmod (IntKind.wrap .i64 p_which) (IntKind.wrap .i64 ((r3.1.length : Int) - 1))) * encStroke.size + 0) [(.int .i64 x2.actuator), (.bool x2.out)]) (Int.toNat (IntKind.wrap .i64 ((Int.tmod (IntKind.wrap .i64 p_which) (IntKind.wrap .i64 ((r3.1.length : Int) - 1))) + 1)) * encStroke.size + 0) [(.int .i64 x3.actuator), (.bool x3.out)]), rl3, (Sub.cons rfl (Sub.cons rfl (Sub.cons rfl (Sub.cons rfl (Sub.cons rfl (Sub.cons rfl (Sub.nil _))))))), fun w' s => s, hm⟩
            exact ALs.nil
           exact ALs.nil
          exact ALs.nil
         exact ALs.nil
        exact ALs.nil
       exact ALs.nil
      refine ALs.cons (i := 12) rfl (Runs.free rfl) rfl rfl ?_ ?_
      ·
       skip
       refine OQ.step (OV.quiet (ov_indexAddr_own (i := 0) Tryz.underlying25 Tryz.sizeOf40 rfl rfl rfl rfl h14 h15)) ?_
       refine ⟨fun w' s => (s.select [1] (by decide) rfl), ?_⟩
       refine AL.any (rs := [9, 13]) (by kernel_rfl) (by decide) ?_
       refine ALs.cons (i := 9) rfl (Runs.free rfl) rfl rfl ?_ ?_
       ·
        skip
        refine OQ.step (OV.quiet (ov_load_owns (i := 0) (vs := [(.int .i64 x2.actuator), (.bool x2.out)]) Tryz.isAgg40 Tryz.sizeOf40 rfl rfl rfl (own_pos h9 h10) rfl (fun j u hu => elem_cell h13 hu))) ?_
        refine ⟨fun w' s => (s.select [1] (by decide) rfl), ?_⟩
        refine AL.any (rs := [13]) (by kernel_rfl) (by decide) ?_
        refine ALs.cons (i := 13) rfl (Runs.free rfl) rfl rfl ?_ ?_
        ·
         skip
         refine OQ.step (OV.quiet (ov_load_owns (i := 0) (vs := [(.int .i64 x3.actuator), (.bool x3.out)]) Tryz.isAgg40 Tryz.sizeOf40 rfl rfl rfl (own_pos h14 h15) rfl (fun j u hu => elem_cell h18 hu))) ?_
         refine ⟨fun w' s => (s.select [1] (by decide) rfl), ?_⟩
         refine AL.any (rs := [14]) (by kernel_rfl) (by decide) ?_
         refine ALs.cons (i := 14) rfl (Runs.free rfl) rfl rfl ?_ ?_
         ·
          skip
          refine OQ.step (OV.quiet (ov_indexAddr_own (i := 0) Tryz.underlying25 Tryz.sizeOf40 rfl rfl rfl rfl h14 h15)) ?_
          refine ⟨fun w' s => (s.select [1] (by decide) rfl), ?_⟩
          refine AL.any (rs := [15]) (by kernel_rfl) (by decide) ?_
          refine ALs.cons0 (i := 15) rfl (Runs.free rfl) rfl ?_ ?_
          ·
           skip
           have rl4 := RL.set rl1 (y := x2) (off := 0) (vs := [(.int .i64 x2.actuator), (.bool x2.out)]) e9 h18 rfl (Nat.le_of_ble_eq_true rfl)
           have e13 := at?_set (y := x2) e9
           refine os_store_own (i := 0) (vs := [(.int .i64 x2.actuator), (.bool x2.out)]) Tryz.sizeOf40 rfl rfl rfl rfl (own_pos h14 h15) rfl rfl (elem_le (off := 0) h16 (Nat.le_of_ble_eq_true rfl)) rfl ?_
           generalize hLL : ((r3.1.length : Nat) : Int) = LL
           rw [show r3.1.length = (List.set r3.1 (Int.toNat (Int.tmod (IntKind.wrap .i64 p_which) (IntKind.wrap .i64 ((r3.1.length : Int) - 1)))) x2).length from List.length_set.symm]
           subst hLL
           obtain ⟨h34, h35, h36, cs7, h37, h38⟩ := rl4.get e13
           obtain rfl : cs7 = [(.int .i64 x2.actuator), (.bool x2.out)] := h37
           refine ⟨fun w' s => (s.select [1] (by decide) rfl), ?_⟩
           refine AL.any (rs := [16]) (by kernel_rfl) (by decide) ?_
           refine ALs.cons (i := 16) rfl (Runs.free rfl) rfl rfl ?_ ?_
           ·
            skip
            obtain ⟨x5, e14, hm⟩ := bind_some hm
            obtain ⟨h39, h40, h41, cs8, h42, h43⟩ := RL.get rl4 e14
            obtain rfl : cs8 = [(.int .i64 x5.actuator), (.bool x5.out)] := h42
            refine OQ.step (OV.quiet (ov_indexAddr_own (i := 0) Tryz.underlying25 Tryz.sizeOf40 rfl rfl rfl rfl h39 h40)) ?_
            refine ⟨fun w' s => (s.select [1] (by decide) rfl), ?_⟩
            refine AL.any (rs := [17]) (by kernel_rfl) (by decide) ?_
            refine ALs.cons0 (i := 17) rfl (Runs.free rfl) rfl ?_ ?_
            ·
             skip
             have rl5 := RL.set rl4 (y := x3) (off := 0) (vs := [(.int .i64 x3.actuator), (.bool x3.out)]) e14 h43 rfl (Nat.le_of_ble_eq_true rfl)
             have e15 := at?_set (y := x3) e14
             refine os_store_own (i := 0) (vs := [(.int .i64 x3.actuator), (.bool x3.out)]) Tryz.sizeOf40 rfl rfl rfl rfl (own_pos h39 h40) rfl rfl (elem_le (off := 0) h41 (Nat.le_of_ble_eq_true rfl)) rfl ?_
             rw [show (List.set r3.1 (Int.toNat (Int.tmod (IntKind.wrap .i64 p_which) (IntKind.wrap .i64 ((r3.1.length : Int) - 1)))) x2).length = (List.set (List.set r3.1 (Int.toNat (Int.tmod (IntKind.wrap .i64 p_which) (IntKind.wrap .i64 ((r3.1.length : Int) - 1)))) x2) (Int.toNat (IntKind.wrap .i64 ((Int.tmod (IntKind.wrap .i64 p_which) (IntKind.wrap .i64 ((r3.1.length : Int) - 1))) + 1))) x3).length from List.length_set.symm]
             obtain ⟨h44, h45, h46, cs9, h47, h48⟩ := rl5.get e15
             obtain rfl : cs9 = [(.int .i64 x3.actuator), (.bool x3.out)] := h47
             refine ⟨fun w' s => (s.select [1] (by decide) rfl), ?_⟩
             refine AL.done (by kernel_rfl) ?_
             refine then_normal ?_
             exact ⟨(List.set (List.set r3.1 (Int.toNat (Int.tmod (IntKind.wrap .i64 p_which) (IntKind.wrap .i64 ((r3.1.length : Int) - 1)))) x2) (Int.toNat (IntKind.wrap .i64 ((Int.tmod (IntKind.wrap .i64 p_which) (IntKind.wrap .i64 ((r3.1.length : Int) - 1))) + 1))) x3), ao4, cap4, (spl (spl xs1 (Int.toNat (Int.tmod (IntKind.wrap .i64 p_which) (IntKind.wrap .i64 ((r3.1.length : Int) - 1))) * encStroke.size + 0) [(.int .i64 x2.actuator), (.bool x2.out)]) (Int.toNat (IntKind.wrap .i64 ((Int.tmod (IntKind.wrap .i64 p_which) (IntKind.wrap .i64 ((r3.1.length : Int) - 1))) + 1)) * encStroke.size + 0) [(.int .i64 x3.actuator), (.bool x3.out)]), rl5, (Sub.cons rfl (Sub.cons rfl (Sub.cons rfl (Sub.cons rfl (Sub.cons rfl (Sub.cons rfl (Sub.nil _))))))), fun w' s => s, hm⟩
            exact ALs.nil
           exact ALs.nil
          exact ALs.nil
         exact ALs.nil
        exact ALs.nil
       refine ALs.cons (i := 13) rfl (Runs.free rfl) rfl rfl ?_ ?_
       ·
        skip
        refine OQ.step (OV.quiet (ov_load_owns (i := 0) (vs := [(.int .i64 x3.actuator), (.bool x3.out)]) Tryz.isAgg40 Tryz.sizeOf40 rfl rfl rfl (own_pos h14 h15) rfl (fun j u hu => elem_cell h18 hu))) ?_
        refine ⟨fun w' s => (s.select [1] (by decide) rfl), ?_⟩
        refine AL.any (rs := [9]) (by kernel_rfl) (by decide) ?_
        refine ALs.cons (i := 9) rfl (Runs.free rfl) rfl rfl ?_ ?_
        ·
         skip
         refine OQ.step (OV.quiet (ov_load_owns (i := 0) (vs := [(.int .i64 x2.actuator), (.bool x2.out)]) Tryz.isAgg40 Tryz.sizeOf40 rfl rfl rfl (own_pos h9 h10) rfl (fun j u hu => elem_cell h13 hu))) ?_
         refine ⟨fun w' s => (s.select [1] (by decide) rfl), ?_⟩
         refine AL.any (rs := [14]) (by kernel_rfl) (by decide) ?_
         refine ALs.cons (i := 14) rfl (Runs.free rfl) rfl rfl ?_ ?_
         ·
          skip
          refine OQ.step (OV.quiet (ov_indexAddr_own (i := 0) Tryz.underlying25 Tryz.sizeOf40 rfl rfl rfl rfl h14 h15)) ?_
          refine ⟨fun w' s => (s.select [1] (by decide) rfl), ?_⟩
          refine AL.any (rs := [15]) (by kernel_rfl) (by decide) ?_
          refine ALs.cons0 (i := 15) rfl (Runs.free rfl) rfl ?_ ?_
          ·
           skip
           have rl6 := RL.set rl1 (y := x2) (off := 0) (vs := [(.int .i64 x2.actuator), (.bool x2.out)]) e9 h18 rfl (Nat.le_of_ble_eq_true rfl)
           have e16 := at?_set (y := x2) e9
           refine os_store_own (i := 0) (vs := [(.int .i64 x2.actuator), (.bool x2.out)]) Tryz.sizeOf40 rfl rfl rfl rfl (own_pos h14 h15) rfl rfl (elem_le (off := 0) h16 (Nat.le_of_ble_eq_true rfl)) rfl ?_
           generalize hLL : ((r3.1.length : Nat) : Int) = LL
           rw [show r3.1.length = (List.set r3.1 (Int.toNat (Int.tmod (IntKind.wrap .i64 p_which) (IntKind.wrap .i64 ((r3.1.length : Int) - 1)))) x2).length from List.length_set.symm]
           subst hLL
           obtain ⟨h49, h50, h51, cs10, h52, h53⟩ := rl6.get e16
           obtain rfl : cs10 = [(.int .i64 x2.actuator), (.bool x2.out)] := h52
           refine ⟨fun w' s => (s.select [1] (by decide) rfl), ?_⟩
           refine AL.any (rs := [16]) (by kernel_rfl) (by decide) ?_
           refine ALs.cons (i := 16) rfl (Runs.free rfl) rfl rfl ?_ ?_
           ·
            skip
            obtain ⟨x6, e17, hm⟩ := bind_some hm
            obtain ⟨h54, h55, h56, cs11, h57, h58⟩ := RL.get rl6 e17
            obtain rfl : cs11 = [(.int .i64 x6.actuator), (.bool x6.out)] := h57
            refine OQ.step (OV.quiet (ov_indexAddr_own (i := 0) Tryz.underlying25 Tryz.sizeOf40 rfl rfl rfl rfl h54 h55)) ?_
            refine ⟨fun w' s => (s.select [1] (by decide) rfl), ?_⟩
            refine AL.any (rs := [17]) (by kernel_rfl) (by decide) ?_
            refine ALs.cons0 (i := 17) rfl (Runs.free rfl) rfl ?_ ?_
            ·
             skip
             have rl7 := RL.set rl6 (y := x3) (off := 0) (vs := [(.int .i64 x3.actuator), (.bool x3.out)]) e17 h58 rfl (Nat.le_of_ble_eq_true rfl)
             have e18 := at?_set (y := x3) e17
             refine os_store_own (i := 0) (vs := [(.int .i64 x3.actuator), (.bool x3.out)]) Tryz.sizeOf40 rfl rfl rfl rfl (own_pos h54 h55) rfl rfl (elem_le (off := 0) h56 (Nat.le_of_ble_eq_true rfl)) rfl ?_
             rw [show (List.set r3.1 (Int.toNat (Int.tmod (IntKind.wrap .i64 p_which) (IntKind.wrap .i64 ((r3.1.length : Int) - 1)))) x2).length = (List.set (List.set r3.1 (Int.toNat (Int.tmod (IntKind.wrap .i64 p_which) (IntKind.wrap .i64 ((r3.1.length : Int) - 1)))) x2) (Int.toNat (IntKind.wrap .i64 ((Int.tmod (IntKind.wrap .i64 p_which) (IntKind.wrap .i64 ((r3.1.length : Int) - 1))) + 1))) x3).length from List.length_set.symm]
             obtain ⟨h59, h60, h61, cs12, h62, h63⟩ := rl7.get e18
             obtain rfl : cs12 = [(.int .i64 x3.actuator), (.bool x3.out)] := h62
             refine ⟨fun w' s => (s.select [1] (by decide) rfl), ?_⟩
             refine AL.done (by kernel_rfl) ?_
             refine then_normal ?_
             exact ⟨(List.set (List.set r3.1 (Int.toNat (Int.tmod (IntKind.wrap .i64 p_which) (IntKind.wrap .i64 ((r3.1.length : Int) - 1)))) x2) (Int.toNat (IntKind.wrap .i64 ((Int.tmod (IntKind.wrap .i64 p_which) (IntKind.wrap .i64 ((r3.1.length : Int) - 1))) + 1))) x3), ao4, cap4, (spl (spl xs1 (Int.toNat (Int.tmod (IntKind.wrap .i64 p_which) (IntKind.wrap .i64 ((r3.1.length : Int) - 1))) * encStroke.size + 0) [(.int .i64 x2.actuator), (.bool x2.out)]) (Int.toNat (IntKind.wrap .i64 ((Int.tmod (IntKind.wrap .i64 p_which) (IntKind.wrap .i64 ((r3.1.length : Int) - 1))) + 1)) * encStroke.size + 0) [(.int .i64 x3.actuator), (.bool x3.out)]), rl7, (Sub.cons rfl (Sub.cons rfl (Sub.cons rfl (Sub.cons rfl (Sub.cons rfl (Sub.cons rfl (Sub.nil _))))))), fun w' s => s, hm⟩
            exact ALs.nil
           exact ALs.nil
          exact ALs.nil
         exact ALs.nil
        exact ALs.nil
       exact ALs.nil
      exact ALs.nil
     refine ALs.cons (i := 12) rfl (Runs.free rfl) rfl rfl ?_ ?_
     ·
      skip
      refine OQ.step (OV.quiet (ov_indexAddr_own (i := 0) Tryz.underlying25 Tryz.sizeOf40 rfl rfl rfl rfl h14 h15)) ?_
      refine ⟨fun w' s => (s.select [1] (by decide) rfl), ?_⟩
      refine AL.any (rs := [8, 13]) (by kernel_rfl) (by decide) ?_
      refine ALs.cons (i := 8) rfl (Runs.free rfl) rfl rfl ?_ ?_
      ·
       skip
       refine OQ.step (OV.quiet (ov_indexAddr_own (i := 0) Tryz.underlying25 Tryz.sizeOf40 rfl rfl rfl rfl h9 h10)) ?_
       refine ⟨fun w' s => (s.select [1] (by decide) rfl), ?_⟩
       refine AL.any (rs := [9, 13]) (by kernel_rfl) (by decide) ?_
       refine ALs.cons (i := 9) rfl (Runs.free rfl) rfl rfl ?_ ?_
       ·
        skip
        refine OQ.step (OV.quiet (ov_load_owns (i := 0) (vs := [(.int .i64 x2.actuator), (.bool x2.out)]) Tryz.isAgg40 Tryz.sizeOf40 rfl rfl rfl (own_pos h9 h10) rfl (fun j u hu => elem_cell h13 hu))) ?_
        refine ⟨fun w' s => (s.select [1] (by decide) rfl), ?_⟩
        refine AL.any (rs := [13]) (by kernel_rfl) (by decide) ?_
        refine ALs.cons (i := 13) rfl (Runs.free rfl) rfl rfl ?_ ?_
        ·
         skip
         refine OQ.step (OV.quiet (ov_load_owns (i := 0) (vs := [(.int .i64 x3.actuator), (.bool x3.out)]) Tryz.isAgg40 Tryz.sizeOf40 rfl rfl rfl (own_pos h14 h15) rfl (fun j u hu => elem_cell h18 hu))) ?_
         refine ⟨fun w' s => (s.select [1] (by decide) rfl), ?_⟩
         refine AL.any (rs := [14]) (by kernel_rfl) (by decide) ?_
         refine ALs.cons (i := 14) rfl (Runs.free rfl) rfl rfl ?_ ?_
         ·
          skip
          refine OQ.step (OV.quiet (ov_indexAddr_own (i := 0) Tryz.underlying25 Tryz.sizeOf40 rfl rfl rfl rfl h14 h15)) ?_
          refine ⟨fun w' s => (s.select [1] (by decide) rfl), ?_⟩
          refine AL.any (rs := [15]) (by kernel_rfl) (by decide) ?_
          refine ALs.cons0 (i := 15) rfl (Runs.free rfl) rfl ?_ ?_
          ·
           skip
           have rl8 := RL.set rl1 (y := x2) (off := 0) (vs := [(.int .i64 x2.actuator), (.bool x2.out)]) e9 h18 rfl (Nat.le_of_ble_eq_true rfl)
           have e19 := at?_set (y := x2) e9
           refine os_store_own (i := 0) (vs := [(.int .i64 x2.actuator), (.bool x2.out)]) Tryz.sizeOf40 rfl rfl rfl rfl (own_pos h14 h15) rfl rfl (elem_le (off := 0) h16 (Nat.le_of_ble_eq_true rfl)) rfl ?_
           generalize hLL : ((r3.1.length : Nat) : Int) = LL
           rw [show r3.1.length = (List.set r3.1 (Int.toNat (Int.tmod (IntKind.wrap .i64 p_which) (IntKind.wrap .i64 ((r3.1.length : Int) - 1)))) x2).length from List.length_set.symm]
           subst hLL
           obtain ⟨h64, h65, h66, cs13, h67, h68⟩ := rl8.get e19
           obtain rfl : cs13 = [(.int .i64 x2.actuator), (.bool x2.out)] := h67
           refine ⟨fun w' s => (s.select [1] (by decide) rfl), ?_⟩
           refine AL.any (rs := [16]) (by kernel_rfl) (by decide) ?_
           refine ALs.cons (i := 16) rfl (Runs.free rfl) rfl rfl ?_ ?_
           ·
            skip
            obtain ⟨x7, e20, hm⟩ := bind_some hm
            obtain ⟨h69, h70, h71, cs14, h72, h73⟩ := RL.get rl8 e20
            obtain rfl : cs14 = [(.int .i64 x7.actuator), (.bool x7.out)] := h72
            refine OQ.step (OV.quiet (ov_indexAddr_own (i := 0) Tryz.underlying25 Tryz.sizeOf40 rfl rfl rfl rfl h69 h70)) ?_
            refine ⟨fun w' s => (s.select [1] (by decide) rfl), ?_⟩
            refine AL.any (rs := [17]) (by kernel_rfl) (by decide) ?_
            refine ALs.cons0 (i := 17) rfl (Runs.free rfl) rfl ?_ ?_
            ·
             skip
             have rl9 := RL.set rl8 (y := x3) (off := 0) (vs := [(.int .i64 x3.actuator), (.bool x3.out)]) e20 h73 rfl (Nat.le_of_ble_eq_true rfl)
             have e21 := at?_set (y := x3) e20
             refine os_store_own (i := 0) (vs := [(.int .i64 x3.actuator), (.bool x3.out)]) Tryz.sizeOf40 rfl rfl rfl rfl (own_pos h69 h70) rfl rfl (elem_le (off := 0) h71 (Nat.le_of_ble_eq_true rfl)) rfl ?_
             rw [show (List.set r3.1 (Int.toNat (Int.tmod (IntKind.wrap .i64 p_which) (IntKind.wrap .i64 ((r3.1.length : Int) - 1)))) x2).length = (List.set (List.set r3.1 (Int.toNat (Int.tmod (IntKind.wrap .i64 p_which) (IntKind.wrap .i64 ((r3.1.length : Int) - 1)))) x2) (Int.toNat (IntKind.wrap .i64 ((Int.tmod (IntKind.wrap .i64 p_which) (IntKind.wrap .i64 ((r3.1.length : Int) - 1))) + 1))) x3).length from List.length_set.symm]
             obtain ⟨h74, h75, h76, cs15, h77, h78⟩ := rl9.get e21
             obtain rfl : cs15 = [(.int .i64 x3.actuator), (.bool x3.out)] := h77
             refine ⟨fun w' s => (s.select [1] (by decide) rfl), ?_⟩
             refine AL.done (by kernel_rfl) ?_
             refine then_normal ?_
             exact ⟨(List.set (List.set r3.1 (Int.toNat (Int.tmod (IntKind.wrap .i64 p_which) (IntKind.wrap .i64 ((r3.1.length : Int) - 1)))) x2) (Int.toNat (IntKind.wrap .i64 ((Int.tmod (IntKind.wrap .i64 p_which) (IntKind.wrap .i64 ((r3.1.length : Int) - 1))) + 1))) x3), ao4, cap4, (spl (spl xs1 (Int.toNat (Int.tmod (IntKind.wrap .i64 p_which) (IntKind.wrap .i64 ((r3.1.length : Int) - 1))) * encStroke.size + 0) [(.int .i64 x2.actuator), (.bool x2.out)]) (Int.toNat (IntKind.wrap .i64 ((Int.tmod (IntKind.wrap .i64 p_which) (IntKind.wrap .i64 ((r3.1.length : Int) - 1))) + 1)) * encStroke.size + 0) [(.int .i64 x3.actuator), (.bool x3.out)]), rl9, (Sub.cons rfl (Sub.cons rfl (Sub.cons rfl (Sub.cons rfl (Sub.cons rfl (Sub.cons rfl (Sub.nil _))))))), fun w' s => s, hm⟩
            exact ALs.nil
           exact ALs.nil
          exact ALs.nil
         exact ALs.nil
        exact ALs.nil
       refine ALs.cons (i := 13) rfl (Runs.free rfl) rfl rfl ?_ ?_
       ·
        skip
        refine OQ.step (OV.quiet (ov_load_owns (i := 0) (vs := [(.int .i64 x3.actuator), (.bool x3.out)]) Tryz.isAgg40 Tryz.sizeOf40 rfl rfl rfl (own_pos h14 h15) rfl (fun j u hu => elem_cell h18 hu))) ?_
        refine ⟨fun w' s => (s.select [1] (by decide) rfl), ?_⟩
        refine AL.any (rs := [9]) (by kernel_rfl) (by decide) ?_
        refine ALs.cons (i := 9) rfl (Runs.free rfl) rfl rfl ?_ ?_
        ·
         skip
         refine OQ.step (OV.quiet (ov_load_owns (i := 0) (vs := [(.int .i64 x2.actuator), (.bool x2.out)]) Tryz.isAgg40 Tryz.sizeOf40 rfl rfl rfl (own_pos h9 h10) rfl (fun j u hu => elem_cell h13 hu))) ?_
         refine ⟨fun w' s => (s.select [1] (by decide) rfl), ?_⟩
         refine AL.any (rs := [14]) (by kernel_rfl) (by decide) ?_
         refine ALs.cons (i := 14) rfl (Runs.free rfl) rfl rfl ?_ ?_
         ·
          skip
          refine OQ.step (OV.quiet (ov_indexAddr_own (i := 0) Tryz.underlying25 Tryz.sizeOf40 rfl rfl rfl rfl h14 h15)) ?_
          refine ⟨fun w' s => (s.select [1] (by decide) rfl), ?_⟩
          refine AL.any (rs := [15]) (by kernel_rfl) (by decide) ?_
          refine ALs.cons0 (i := 15) rfl (Runs.free rfl) rfl ?_ ?_
          ·
           skip
           have rl10 := RL.set rl1 (y := x2) (off := 0) (vs := [(.int .i64 x2.actuator), (.bool x2.out)]) e9 h18 rfl (Nat.le_of_ble_eq_true rfl)
           have e22 := at?_set (y := x2) e9
           refine os_store_own (i := 0) (vs := [(.int .i64 x2.actuator), (.bool x2.out)]) Tryz.sizeOf40 rfl rfl rfl rfl (own_pos h14 h15) rfl rfl (elem_le (off := 0) h16 (Nat.le_of_ble_eq_true rfl)) rfl ?_
           generalize hLL : ((r3.1.length : Nat) : Int) = LL
           rw [show r3.1.length = (List.set r3.1 (Int.toNat (Int.tmod (IntKind.wrap .i64 p_which) (IntKind.wrap .i64 ((r3.1.length : Int) - 1)))) x2).length from List.length_set.symm]
           subst hLL
           obtain ⟨h79, h80, h81, cs16, h82, h83⟩ := rl10.get e22
           obtain rfl : cs16 = [(.int .i64 x2.actuator), (.bool x2.out)] := h82
           refine ⟨fun w' s => (s.select [1] (by decide) rfl), ?_⟩
           refine AL.any (rs := [16]) (by kernel_rfl) (by decide) ?_
           refine ALs.cons (i := 16) rfl (Runs.free rfl) rfl rfl ?_ ?_
           ·
            skip
            obtain ⟨x8, e23, hm⟩ := bind_some hm
            obtain ⟨h84, h85, h86, cs17, h87, h88⟩ := RL.get rl10 e23
            obtain rfl : cs17 = [(.int .i64 x8.actuator), (.bool x8.out)] := h87
            refine OQ.step (OV.quiet (ov_indexAddr_own (i := 0) Tryz.underlying25 Tryz.sizeOf40 rfl rfl rfl rfl h84 h85)) ?_
            refine ⟨fun w' s => (s.select [1] (by decide) rfl), ?_⟩
            refine AL.any (rs := [17]) (by kernel_rfl) (by decide) ?_
            refine ALs.cons0 (i := 17) rfl (Runs.free rfl) rfl ?_ ?_
            ·
             skip
             have rl11 := RL.set rl10 (y := x3) (off := 0) (vs := [(.int .i64 x3.actuator), (.bool x3.out)]) e23 h88 rfl (Nat.le_of_ble_eq_true rfl)
             have e24 := at?_set (y := x3) e23
             refine os_store_own (i := 0) (vs := [(.int .i64 x3.actuator), (.bool x3.out)]) Tryz.sizeOf40 rfl rfl rfl rfl (own_pos h84 h85) rfl rfl (elem_le (off := 0) h86 (Nat.le_of_ble_eq_true rfl)) rfl ?_
             rw [show (List.set r3.1 (Int.toNat (Int.tmod (IntKind.wrap .i64 p_which) (IntKind.wrap .i64 ((r3.1.length : Int) - 1)))) x2).length = (List.set (List.set r3.1 (Int.toNat (Int.tmod (IntKind.wrap .i64 p_which) (IntKind.wrap .i64 ((r3.1.length : Int) - 1)))) x2) (Int.toNat (IntKind.wrap .i64 ((Int.tmod (IntKind.wrap .i64 p_which) (IntKind.wrap .i64 ((r3.1.length : Int) - 1))) + 1))) x3).length from List.length_set.symm]
             obtain ⟨h89, h90, h91, cs18, h92, h93⟩ := rl11.get e24
             obtain rfl : cs18 = [(.int .i64 x3.actuator), (.bool x3.out)] := h92
             refine ⟨fun w' s => (s.select [1] (by decide) rfl), ?_⟩
             refine AL.done (by kernel_rfl) ?_
             refine then_normal ?_
             exact ⟨(List.set (List.set r3.1 (Int.toNat (Int.tmod (IntKind.wrap .i64 p_which) (IntKind.wrap .i64 ((r3.1.length : Int) - 1)))) x2) (Int.toNat (IntKind.wrap .i64 ((Int.tmod (IntKind.wrap .i64 p_which) (IntKind.wrap .i64 ((r3.1.length : Int) - 1))) + 1))) x3), ao4, cap4, (spl (spl xs1 (Int.toNat (Int.tmod (IntKind.wrap .i64 p_which) (IntKind.wrap .i64 ((r3.1.length : Int) - 1))) * encStroke.size + 0) [(.int .i64 x2.actuator), (.bool x2.out)]) (Int.toNat (IntKind.wrap .i64 ((Int.tmod (IntKind.wrap .i64 p_which) (IntKind.wrap .i64 ((r3.1.length : Int) - 1))) + 1)) * encStroke.size + 0) [(.int .i64 x3.actuator), (.bool x3.out)]), rl11, (Sub.cons rfl (Sub.cons rfl (Sub.cons rfl (Sub.cons rfl (Sub.cons rfl (Sub.cons rfl (Sub.nil _))))))), fun w' s => s, hm⟩
            exact ALs.nil
           exact ALs.nil
          exact ALs.nil
         exact ALs.nil
        exact ALs.nil
       exact ALs.nil
      refine ALs.cons (i := 13) rfl (Runs.free rfl) rfl rfl ?_ ?_
      ·
       skip
       refine OQ.step (OV.quiet (ov_load_owns (i := 0) (vs := [(.int .i64 x3.actuator), (.bool x3.out)]) Tryz.isAgg40 Tryz.sizeOf40 rfl rfl rfl (own_pos h14 h15) rfl (fun j u hu => elem_cell h18 hu))) ?_
       refine ⟨fun w' s => (s.select [1] (by decide) rfl), ?_⟩
       refine AL.any (rs := [8]) (by kernel_rfl) (by decide) ?_
       refine ALs.cons (i := 8) rfl (Runs.free rfl) rfl rfl ?_ ?_
       ·
        skip
        refine OQ.step (OV.quiet (ov_indexAddr_own (i := 0) Tryz.underlying25 Tryz.sizeOf40 rfl rfl rfl rfl h9 h10)) ?_
        refine ⟨fun w' s => (s.select [1] (by decide) rfl), ?_⟩
        refine AL.any (rs := [9]) (by kernel_rfl) (by decide) ?_
        refine ALs.cons (i := 9) rfl (Runs.free rfl) rfl rfl ?_ ?_
        ·
         skip
         refine OQ.step (OV.quiet (ov_load_owns (i := 0) (vs := [(.int .i64 x2.actuator), (.bool x2.out)]) Tryz.isAgg40 Tryz.sizeOf40 rfl rfl rfl (own_pos h9 h10) rfl (fun j u hu => elem_cell h13 hu))) ?_
         refine ⟨fun w' s => (s.select [1] (by decide) rfl), ?_⟩
         refine AL.any (rs := [14]) (by kernel_rfl) (by decide) ?_
         refine ALs.cons (i := 14) rfl (Runs.free rfl) rfl rfl ?_ ?_
         ·
          skip
          refine OQ.step (OV.quiet (ov_indexAddr_own (i := 0) Tryz.underlying25 Tryz.sizeOf40 rfl rfl rfl rfl h14 h15)) ?_
          refine ⟨fun w' s => (s.select [1] (by decide) rfl), ?_⟩
          refine AL.any (rs := [15]) (by kernel_rfl) (by decide) ?_
          refine ALs.cons0 (i := 15) rfl (Runs.free rfl) rfl ?_ ?_
          ·
           skip
           have rl12 := RL.set rl1 (y := x2) (off := 0) (vs := [(.int .i64 x2.actuator), (.bool x2.out)]) e9 h18 rfl (Nat.le_of_ble_eq_true rfl)
           have e25 := at?_set (y := x2) e9
           refine os_store_own (i := 0) (vs := [(.int .i64 x2.actuator), (.bool x2.out)]) Tryz.sizeOf40 rfl rfl rfl rfl (own_pos h14 h15) rfl rfl (elem_le (off := 0) h16 (Nat.le_of_ble_eq_true rfl)) rfl ?_
           generalize hLL : ((r3.1.length : Nat) : Int) = LL
           rw [show r3.1.length = (List.set r3.1 (Int.toNat (Int.tmod (IntKind.wrap .i64 p_which) (IntKind.wrap .i64 ((r3.1.length : Int) - 1)))) x2).length from List.length_set.symm]
           subst hLL
           obtain ⟨h94, h95, h96, cs19, h97, h98⟩ := rl12.get e25
           obtain rfl : cs19 = [(.int .i64 x2.actuator), (.bool x2.out)] := h97
           refine ⟨fun w' s => (s.select [1] (by decide) rfl), ?_⟩
           refine AL.any (rs := [16]) (by kernel_rfl) (by decide) ?_
           refine ALs.cons (i := 16) rfl (Runs.free rfl) rfl rfl ?_ ?_
           ·
            skip
            obtain ⟨x9, e26, hm⟩ := bind_some hm
            obtain ⟨h99, h100, h101, cs20, h102, h103⟩ := RL.get rl12 e26
            obtain rfl : cs20 = [(.int .i64 x9.actuator), (.bool x9.out)] := h102
            refine OQ.step (OV.quiet (ov_indexAddr_own (i := 0) Tryz.underlying25 Tryz.sizeOf40 rfl rfl rfl rfl h99 h100)) ?_
            refine ⟨fun w' s => (s.select [1] (by decide) rfl), ?_⟩
            refine AL.any (rs := [17]) (by kernel_rfl) (by decide) ?_
            refine ALs.cons0 (i := 17) rfl (Runs.free rfl) rfl ?_ ?_
            ·
             skip
             have rl13 := RL.set rl12 (y := x3) (off := 0) (vs := [(.int .i64 x3.actuator), (.bool x3.out)]) e26 h103 rfl (Nat.le_of_ble_eq_true rfl)
             have e27 := at?_set (y := x3) e26
             refine os_store_own (i := 0) (vs := [(.int .i64 x3.actuator), (.bool x3.out)]) Tryz.sizeOf40 rfl rfl rfl rfl (own_pos h99 h100) rfl rfl (elem_le (off := 0) h101 (Nat.le_of_ble_eq_true rfl)) rfl ?_
             rw [show (List.set r3.1 (Int.toNat (Int.tmod (IntKind.wrap .i64 p_which) (IntKind.wrap .i64 ((r3.1.length : Int) - 1)))) x2).length = (List.set (List.set r3.1 (Int.toNat (Int.tmod (IntKind.wrap .i64 p_which) (IntKind.wrap .i64 ((r3.1.length : Int) - 1)))) x2) (Int.toNat (IntKind.wrap .i64 ((Int.tmod (IntKind.wrap .i64 p_which) (IntKind.wrap .i64 ((r3.1.length : Int) - 1))) + 1))) x3).length from List.length_set.symm]
             obtain ⟨h104, h105, h106, cs21, h107, h108⟩ := rl13.get e27
             obtain rfl : cs21 = [(.int .i64 x3.actuator), (.bool x3.out)] := h107
             refine ⟨fun w' s => (s.select [1] (by decide) rfl), ?_⟩
             refine AL.done (by kernel_rfl) ?_
             refine then_normal ?_
             exact ⟨(List.set (List.set r3.1 (Int.toNat (Int.tmod (IntKind.wrap .i64 p_which) (IntKind.wrap .i64 ((r3.1.length : Int) - 1)))) x2) (Int.toNat (IntKind.wrap .i64 ((Int.tmod (IntKind.wrap .i64 p_which) (IntKind.wrap .i64 ((r3.1.length : Int) - 1))) + 1))) x3), ao4, cap4, (spl (spl xs1 (Int.toNat (Int.tmod (IntKind.wrap .i64 p_which) (IntKind.wrap .i64 ((r3.1.length : Int) - 1))) * encStroke.size + 0) [(.int .i64 x2.actuator), (.bool x2.out)]) (Int.toNat (IntKind.wrap .i64 ((Int.tmod (IntKind.wrap .i64 p_which) (IntKind.wrap .i64 ((r3.1.length : Int) - 1))) + 1)) * encStroke.size + 0) [(.int .i64 x3.actuator), (.bool x3.out)]), rl13, (Sub.cons rfl (Sub.cons rfl (Sub.cons rfl (Sub.cons rfl (Sub.cons rfl (Sub.cons rfl (Sub.nil _))))))), fun w' s => s, hm⟩
            exact ALs.nil
           exact ALs.nil
          exact ALs.nil
         exact ALs.nil
        exact ALs.nil
       exact ALs.nil
      exact ALs.nil
     exact ALs.nil
    ·
     rintro g' S' ⟨l2, ao5, cap5, xs2, rl14, hsub3, hS3, hm⟩
     refine WP.sub hsub3 (WP.weaken hS3 ?_)
     replace hm := (congrFun hk2 l2).symm.trans hm
     refine WP.seq (WP.region ?_)
     refine wq rfl rfl rfl (ov_load_whole (i := 1) Tryz.isAgg24 Tryz.sizeOf24 rfl rfl rfl rfl) ?_
     refine wq rfl rfl rfl (ov_move rfl rfl) ?_
     obtain ⟨r5, e28, hm⟩ := bind_some hm
     refine WL.quiet (Runs.free rfl) rfl rfl (oq_con (r := (.tuple #[(.bool r5.1), (.int .i64 r5.2)])) Tryz.call13 rfl rfl (fun w' s => ⟨_, (sequence_Accepts_con p_s l2 ao1 cap1 ao5 cap5 w' (hp w') (Le.refl _) (h1.mono s.hold) hc1 (s.row_arg (i := 0) rfl rl14).1 (s.row_arg (i := 0) rfl rl14).2 (hG.mono s.hold) r5 e28)⟩)) ?_
     refine wq rfl rfl rfl (ov_move rfl rfl) ?_
     refine wq rfl rfl rfl (ov_extract rfl rfl rfl) ?_
     refine wq rfl rfl rfl (ov_extract rfl rfl rfl) ?_
     refine wq rfl rfl rfl (ov_assign rfl rfl) ?_
     refine wq rfl rfl rfl (ov_assign rfl rfl) ?_
     refine WL.nil (then_normal (WP.seq ?_))
     refine WP.region_draws (by kernel_rfl) (by kernel_rfl) (fun _ s => s.drew) ?_
     refine QL.quiet (Runs.free rfl) rfl rfl (OV.quiet (ov_load_whole (i := 1) Tryz.isAgg24 Tryz.sizeOf24 rfl rfl rfl rfl)) ?_
     refine QL.quiet (Runs.free rfl) rfl rfl (OV.quiet (ov_move rfl rfl)) ?_
     refine QL.quiet (Runs.free rfl) rfl rfl (OV.quiet (ov_move rfl rfl)) ?_
     obtain ⟨l3, e29, hm⟩ := bind_some hm
     obtain ⟨ao6, cap6, h109, h110, hc10⟩ := sl_h h2 hc3 e29
     refine QL.quiet (Runs.free rfl) rfl rfl (OV.quiet (h109 Tryz.underlying25 Tryz.sizeOf40 rfl rfl rfl )) ?_
     obtain ⟨r6, e30, hm⟩ := bind_some hm
     refine QL.quiet (Runs.free rfl) rfl rfl (oq_con (r := (.tuple #[(.bool r6.1), (.int .i64 r6.2)])) Tryz.call13 rfl rfl (fun w' s => ⟨_, (sequence_Accepts_con p_s l3 ao1 cap1 ao6 cap6  w' H1 s.hold h1 hc1 h110 hc10 hG r6 e30)⟩)) ?_
     refine QL.quiet (Runs.free rfl) rfl rfl (OV.quiet (ov_move rfl rfl)) ?_
     refine QL.quiet (Runs.free rfl) rfl rfl (OV.quiet (ov_extract rfl rfl rfl)) ?_
     refine QL.quiet (Runs.free rfl) rfl rfl (OV.quiet (ov_extract rfl rfl rfl)) ?_
     refine QL.quiet (Runs.free rfl) rfl rfl (OV.quiet (ov_assign rfl rfl)) ?_
     refine QL.quiet (Runs.free rfl) rfl rfl (OV.quiet (ov_assign rfl rfl)) ?_
     refine QL.nil ?_
     refine then_normal ?_
     obtain ⟨k3, hk3, hm⟩ := joinK_some hm
     refine WP.seq_join (fun g' S' => ∃ (c3 : Bool) (i3 : Int), Sub [(6, (.int .i64 r5.2)), (8, (.int .i64 r6.2)), (11, (.bool c2)), (15, (.bool r5.1)), (16, (.bool r6.1)), (17, (.bool c3)), (18, (.int .i64 i3)), (1000000007, (.bool false))] g' ∧ (∀ w', S' w' → St w H [] H1 w') ∧ k3 c3 i3 = some r) ?_ ?_
     ·
      skip
      refine WP.region_any (S₀ := St w H [.row 40 (encStroke).size l2.length (.slice ao5 l2.length cap5) xs2, .blk b1 24 [(.int .i64 p_s.actuators), (.slice ao1 p_s.steps.length cap1)]] H1) 14 rfl (by kernel_rfl) (fun w' s => s) (fun _ s => s.drew) ?_
      refine tq (i := 0) rfl (by kernel_rfl) rfl rfl rfl (ov_load_whole (i := 1) Tryz.isAgg24 Tryz.sizeOf24 rfl rfl rfl rfl) ?_
      refine tq (i := 1) rfl (by kernel_rfl) rfl rfl rfl (ov_move rfl rfl) ?_
      refine tq (i := 3) rfl (by kernel_rfl) rfl rfl rfl (ov_move rfl rfl) ?_
      obtain ⟨x10, e31, hm⟩ := bind_some hm
      obtain ⟨h111, h112, h113, cs22, h114, h115⟩ := h2.get e31 (by decide)
      obtain rfl : cs22 = [(.int .i64 x10.actuator), (.bool x10.out)] := h114
      refine tq (i := 4) rfl (by kernel_rfl) rfl rfl rfl (ov_indexAddr Tryz.underlying25 Tryz.sizeOf40 rfl rfl rfl h111 h112 h113) ?_
      refine tq (i := 5) rfl (by kernel_rfl) rfl rfl rfl (ov_load_elems (vs := [(.int .i64 x10.actuator), (.bool x10.out)]) Tryz.isAgg40 Tryz.sizeOf40 rfl rfl rfl h115 h113) ?_
      refine AL.any (rs := [2, 6]) (by kernel_rfl) (by decide) ?_
      refine ALs.cons (i := 2) rfl (Runs.free rfl) rfl rfl ?_ ?_
      ·
       skip
       obtain ⟨l4, e32, hm⟩ := bind_some hm
       refine os_cloneS rfl rfl h2 hc3 e32 (fun ao7 cap7 xs3 rl15 => ?_)
       refine ⟨fun w' s => (s.select [1, 2] (by decide) rfl), ?_⟩
       refine AL.any (rs := [6]) (by kernel_rfl) (by decide) ?_
       refine ALs.cons (i := 6) rfl (Runs.free rfl) rfl rfl ?_ ?_
       ·
        skip
        have rl16 : RL H1 encStroke ([x10] : List Stroke) [(.int .i64 x10.actuator), (.bool x10.out)] := RL.cons (cs := [(.int .i64 x10.actuator), (.bool x10.out)]) (xs := []) rfl (RL.nil _ _)
        refine os_buildSlice (cs := [(.int .i64 x10.actuator), (.bool x10.out)]) (E := 40) (sz := 2) rfl rfl (fun _ => by kernel_rfl) rfl (by decide) (fun b3 => ?_)
        refine ⟨fun w' s => (s.select [2, 3] (by decide) rfl), ?_⟩
        refine AL.any (rs := [7]) (by kernel_rfl) (by decide) ?_
        refine ALs.cons (i := 7) rfl (Runs.free rfl) rfl rfl ?_ ?_
        ·
         skip
         obtain ⟨l5, e33, hm⟩ := bind_some hm
         refine os_app (i := 1) (j := 0) (En := encStroke) (xs := xs3) (ys := [(.int .i64 x10.actuator), (.bool x10.out)]) Tryz.underlying25 (by kernel_rfl : (Tryz.prog.info? 40).map (fun i => (i.zero, i.size, i.bytes)) = some (some (.agg #[(.int .i64 0), (.bool false)]), (encStroke).size, 16)) rfl (by decide) rfl rfl rfl rfl rfl rfl rl15 rl16 e33 (fun ao8 cap8 rl17 => ?_)
         refine ⟨fun w' s => (s.select [2, 3] (by decide) rfl), ?_⟩
         refine AL.any (rs := [8]) (by kernel_rfl) (by decide) ?_
         refine ALs.cons (i := 8) rfl (Runs.free rfl) rfl rfl ?_ ?_
         ·
          skip
          obtain ⟨r7, e34, hm⟩ := bind_some hm
          refine OQ.step (oq_con (r := (.tuple #[(.bool r7.1), (.int .i64 r7.2)])) Tryz.call13 rfl rfl (fun w' s => ⟨_, (sequence_Accepts_con p_s (r3.1 ++ ([x10] : List Stroke)) ao1 cap1 ao8 cap8 w' (hp w') (Le.refl _) (h1.mono s.hold) hc1 (s.row_arg (i := 1) rfl rl17).1 (s.row_arg (i := 1) rfl rl17).2 (hG.mono s.hold) r7 e34)⟩)) ?_
          refine ⟨fun w' s => (s.select [2, 3] (by decide) rfl), ?_⟩
          refine tq (i := 9) rfl (by kernel_rfl) rfl rfl rfl (ov_move rfl rfl) ?_
          refine tq (i := 10) rfl (by kernel_rfl) rfl rfl rfl (ov_extract rfl rfl rfl) ?_
          refine tq (i := 11) rfl (by kernel_rfl) rfl rfl rfl (ov_extract rfl rfl rfl) ?_
          refine tq (i := 12) rfl (by kernel_rfl) rfl rfl rfl (ov_assign rfl rfl) ?_
          refine tq (i := 13) rfl (by kernel_rfl) rfl rfl rfl (ov_assign rfl rfl) ?_
          refine AL.done (by kernel_rfl) ?_
          refine then_normal ?_
          exact ⟨r7.1, r7.2, (Sub.cons rfl (Sub.cons rfl (Sub.cons rfl (Sub.cons rfl (Sub.cons rfl (Sub.cons rfl (Sub.cons rfl (Sub.cons rfl (Sub.nil _))))))))), fun w' s => (s.select [] (by decide) rfl), hm⟩
         exact ALs.nil
        exact ALs.nil
       exact ALs.nil
      refine ALs.cons (i := 6) rfl (Runs.free rfl) rfl rfl ?_ ?_
      ·
       skip
       have rl18 : RL H1 encStroke ([x10] : List Stroke) [(.int .i64 x10.actuator), (.bool x10.out)] := RL.cons (cs := [(.int .i64 x10.actuator), (.bool x10.out)]) (xs := []) rfl (RL.nil _ _)
       refine os_buildSlice (cs := [(.int .i64 x10.actuator), (.bool x10.out)]) (E := 40) (sz := 2) rfl rfl (fun _ => by kernel_rfl) rfl (by decide) (fun b4 => ?_)
       refine ⟨fun w' s => (s.select [1, 2] (by decide) rfl), ?_⟩
       refine AL.any (rs := [2]) (by kernel_rfl) (by decide) ?_
       refine ALs.cons (i := 2) rfl (Runs.free rfl) rfl rfl ?_ ?_
       ·
        skip
        obtain ⟨l6, e35, hm⟩ := bind_some hm
        refine os_cloneS rfl rfl h2 hc3 e35 (fun ao9 cap9 xs4 rl19 => ?_)
        refine ⟨fun w' s => (s.select [2, 3] (by decide) rfl), ?_⟩
        refine AL.any (rs := [7]) (by kernel_rfl) (by decide) ?_
        refine ALs.cons (i := 7) rfl (Runs.free rfl) rfl rfl ?_ ?_
        ·
         skip
         obtain ⟨l7, e36, hm⟩ := bind_some hm
         refine os_app (i := 0) (j := 1) (En := encStroke) (xs := xs4) (ys := [(.int .i64 x10.actuator), (.bool x10.out)]) Tryz.underlying25 (by kernel_rfl : (Tryz.prog.info? 40).map (fun i => (i.zero, i.size, i.bytes)) = some (some (.agg #[(.int .i64 0), (.bool false)]), (encStroke).size, 16)) rfl (by decide) rfl rfl rfl rfl rfl rfl rl19 rl18 e36 (fun ao10 cap10 rl20 => ?_)
         refine ⟨fun w' s => (s.select [2, 3] (by decide) rfl), ?_⟩
         refine AL.any (rs := [8]) (by kernel_rfl) (by decide) ?_
         refine ALs.cons (i := 8) rfl (Runs.free rfl) rfl rfl ?_ ?_
         ·
          skip
          obtain ⟨r8, e37, hm⟩ := bind_some hm
          refine OQ.step (oq_con (r := (.tuple #[(.bool r8.1), (.int .i64 r8.2)])) Tryz.call13 rfl rfl (fun w' s => ⟨_, (sequence_Accepts_con p_s (r3.1 ++ ([x10] : List Stroke)) ao1 cap1 ao10 cap10 w' (hp w') (Le.refl _) (h1.mono s.hold) hc1 (s.row_arg (i := 0) rfl rl20).1 (s.row_arg (i := 0) rfl rl20).2 (hG.mono s.hold) r8 e37)⟩)) ?_
          refine ⟨fun w' s => (s.select [2, 3] (by decide) rfl), ?_⟩
          refine tq (i := 9) rfl (by kernel_rfl) rfl rfl rfl (ov_move rfl rfl) ?_
          refine tq (i := 10) rfl (by kernel_rfl) rfl rfl rfl (ov_extract rfl rfl rfl) ?_
          refine tq (i := 11) rfl (by kernel_rfl) rfl rfl rfl (ov_extract rfl rfl rfl) ?_
          refine tq (i := 12) rfl (by kernel_rfl) rfl rfl rfl (ov_assign rfl rfl) ?_
          refine tq (i := 13) rfl (by kernel_rfl) rfl rfl rfl (ov_assign rfl rfl) ?_
          refine AL.done (by kernel_rfl) ?_
          refine then_normal ?_
          exact ⟨r8.1, r8.2, (Sub.cons rfl (Sub.cons rfl (Sub.cons rfl (Sub.cons rfl (Sub.cons rfl (Sub.cons rfl (Sub.cons rfl (Sub.cons rfl (Sub.nil _))))))))), fun w' s => (s.select [] (by decide) rfl), hm⟩
         exact ALs.nil
        exact ALs.nil
       exact ALs.nil
      exact ALs.nil
     ·
      rintro g' S' ⟨c3, i3, hsub4, hS4, hm⟩
      refine WP.sub hsub4 (WP.weaken hS4 ?_)
      replace hm := (congrFun (congrFun hk3 c3) i3).symm.trans hm
      refine WP.seq (WP.region ?_)
      refine wq rfl rfl rfl (ov_move rfl rfl) ?_
      refine wq rfl rfl rfl (ov_move rfl rfl) ?_
      refine wq rfl rfl rfl (ov_add rfl rfl rfl) ?_
      refine wq rfl rfl rfl (ov_move rfl rfl) ?_
      refine wq rfl rfl rfl (ov_add rfl rfl rfl) ?_
      refine wq rfl rfl rfl (ov_eql rfl rfl rfl) ?_
      refine wq rfl rfl rfl (ov_move rfl rfl) ?_
      refine WL.cut_bool 5 128 (x := (((IntKind.wrap .i64 ((IntKind.wrap .i64 (r5.2 + r6.2)) + i3)) == 0) && (r5.1 == (!c2)))) ?_ ?_
      ·
       rcases Bool.eq_false_or_eq_true ((IntKind.wrap .i64 ((IntKind.wrap .i64 (r5.2 + r6.2)) + i3)) == 0) with hc11 | hc11
       ·
        skip
        refine WL.quiet (Runs.yes rfl rfl rfl hc11) rfl rfl (OV.quiet (ov_move rfl rfl)) ?_
        refine WL.quiet (Runs.yes rfl rfl rfl hc11) rfl rfl (OV.quiet (ov_move rfl rfl)) ?_
        refine WL.quiet (Runs.yes rfl rfl rfl hc11) rfl rfl (OV.quiet (ov_not rfl rfl)) ?_
        refine WL.quiet (Runs.yes rfl rfl rfl hc11) rfl rfl (OV.quiet (ov_beql Tryz.underlying4 rfl rfl rfl)) ?_
        refine wq rfl rfl rfl (ov_pick_true rfl (guard_eq rfl hc11) rfl) ?_
        exact WL.nil ⟨Sub.cons' rfl (congrArg Value.bool (andT hc11)) (Sub.skip rfl (Sub.skip rfl (Sub.skip rfl (Sub.skip rfl (Sub.skip rfl (Sub.refl _)))))), fun _ s => s⟩
       ·
        skip
        refine WL.idle (Idle.no rfl rfl rfl hc11) rfl rfl ?_
        refine WL.idle (Idle.no rfl rfl rfl hc11) rfl rfl ?_
        refine WL.idle (Idle.no rfl rfl rfl hc11) rfl rfl ?_
        refine WL.idle (Idle.no rfl rfl rfl hc11) rfl rfl ?_
        refine wq rfl rfl rfl (ov_pick_false rfl (guard_eq rfl hc11) rfl) ?_
        exact WL.nil ⟨Sub.cons' rfl (congrArg Value.bool (andF hc11)) (Sub.skip rfl (Sub.skip rfl (Sub.skip rfl (Sub.skip rfl (Sub.skip rfl (Sub.refl _)))))), fun _ s => s⟩
      refine wq rfl rfl rfl (ov_move rfl rfl) ?_
      refine WL.cut_bool 3 132 (x := ((((IntKind.wrap .i64 ((IntKind.wrap .i64 (r5.2 + r6.2)) + i3)) == 0) && (r5.1 == (!c2))) && (!r6.1))) ?_ ?_
      ·
       rcases Bool.eq_false_or_eq_true (((IntKind.wrap .i64 ((IntKind.wrap .i64 (r5.2 + r6.2)) + i3)) == 0) && (r5.1 == (!c2))) with hc12 | hc12
       ·
        skip
        refine WL.quiet (Runs.yes rfl rfl rfl hc12) rfl rfl (OV.quiet (ov_move rfl rfl)) ?_
        refine WL.quiet (Runs.yes rfl rfl rfl hc12) rfl rfl (OV.quiet (ov_not rfl rfl)) ?_
        refine wq rfl rfl rfl (ov_pick_true rfl (guard_eq rfl hc12) rfl) ?_
        exact WL.nil ⟨Sub.cons' rfl (congrArg Value.bool (andT hc12)) (Sub.skip rfl (Sub.skip rfl (Sub.skip rfl (Sub.refl _)))), fun _ s => s⟩
       ·
        skip
        refine WL.idle (Idle.no rfl rfl rfl hc12) rfl rfl ?_
        refine WL.idle (Idle.no rfl rfl rfl hc12) rfl rfl ?_
        refine wq rfl rfl rfl (ov_pick_false rfl (guard_eq rfl hc12) rfl) ?_
        exact WL.nil ⟨Sub.cons' rfl (congrArg Value.bool (andF hc12)) (Sub.skip rfl (Sub.skip rfl (Sub.skip rfl (Sub.refl _)))), fun _ s => s⟩
      refine wq rfl rfl rfl (ov_move rfl rfl) ?_
      refine WL.cut_bool 3 136 (x := (((((IntKind.wrap .i64 ((IntKind.wrap .i64 (r5.2 + r6.2)) + i3)) == 0) && (r5.1 == (!c2))) && (!r6.1)) && (!c3))) ?_ ?_
      ·
       rcases Bool.eq_false_or_eq_true ((((IntKind.wrap .i64 ((IntKind.wrap .i64 (r5.2 + r6.2)) + i3)) == 0) && (r5.1 == (!c2))) && (!r6.1)) with hc13 | hc13
       ·
        skip
        refine WL.quiet (Runs.yes rfl rfl rfl hc13) rfl rfl (OV.quiet (ov_move rfl rfl)) ?_
        refine WL.quiet (Runs.yes rfl rfl rfl hc13) rfl rfl (OV.quiet (ov_not rfl rfl)) ?_
        refine wq rfl rfl rfl (ov_pick_true rfl (guard_eq rfl hc13) rfl) ?_
        exact WL.nil ⟨Sub.cons' rfl (congrArg Value.bool (andT hc13)) (Sub.skip rfl (Sub.skip rfl (Sub.skip rfl (Sub.refl _)))), fun _ s => s⟩
       ·
        skip
        refine WL.idle (Idle.no rfl rfl rfl hc13) rfl rfl ?_
        refine WL.idle (Idle.no rfl rfl rfl hc13) rfl rfl ?_
        refine wq rfl rfl rfl (ov_pick_false rfl (guard_eq rfl hc13) rfl) ?_
        exact WL.nil ⟨Sub.cons' rfl (congrArg Value.bool (andF hc13)) (Sub.skip rfl (Sub.skip rfl (Sub.skip rfl (Sub.refl _)))), fun _ s => s⟩
      refine wq rfl rfl rfl (ov_move rfl rfl) ?_
      obtain ⟨c4, e38, hm⟩ := bind_some hm
      refine WL.cut_bool 2 139 (x := c4) ?_ ?_
      ·
       rcases Bool.eq_false_or_eq_true (((((IntKind.wrap .i64 ((IntKind.wrap .i64 (r5.2 + r6.2)) + i3)) == 0) && (r5.1 == (!c2))) && (!r6.1)) && (!c3)) with hc14 | hc14
       ·
        skip
        replace hm := ite_t hc14 e38
        obtain ⟨r9, e39, hm⟩ := bind_some hm
        refine WL.quiet (Runs.yes rfl rfl rfl hc14) rfl rfl (oq_con (r := (.bool r9)) Tryz.call12 rfl rfl (fun w' s => ⟨_, (law14_awake_con   w' H1 s.hold hG r9 e39)⟩)) ?_
        refine wq rfl rfl rfl (ov_pick_true rfl (guard_eq rfl hc14) rfl) ?_
        exact WL.nil ⟨Sub.cons' rfl (congrArg Value.bool (Option.some.inj hm)) (Sub.skip rfl (Sub.skip rfl (Sub.refl _))), fun _ s => s⟩
       ·
        skip
        replace hm := ite_f hc14 e38
        refine WL.idle (Idle.no rfl rfl rfl hc14) rfl rfl ?_
        refine wq rfl rfl rfl (ov_pick_false rfl (guard_eq rfl hc14) rfl) ?_
        exact WL.nil ⟨Sub.cons' rfl (congrArg Value.bool (Option.some.inj hm)) (Sub.skip rfl (Sub.skip rfl (Sub.refl _))), fun _ s => s⟩
      refine wq rfl rfl rfl (ov_assign rfl rfl) ?_
      refine WL.nil (then_normal (WP.ret ?_))
      obtain rfl := Option.some.inj hm
      refine retQ_ret Tryz.results4 (Res.tmp rfl Res.nil) rfl (fun w' s => ⟨s.below, ?_⟩)
      exact rfl

end Go.Proofs.YtbhcojijafbdiaaGreatDoor.W
