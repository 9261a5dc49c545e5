/- The walks. Written by our own program gen.py; Lean checks it. -/
import Derived.Test.YtbhcojijafbdiaaGreatDoorPlain
import Derived.Test.YtbhcojijafbdiaaGreatDoorEqs
import Derived.Test.YtbhcojijafbdiaaGreatDoorProg
import Derived.Test.YtbhcojijafbdiaaGreatDoorExt
import Derived.Test.YtbhcojijafbdiaaGreatDoorClone
import Derived.Test.YtbhcojijafbdiaaGreatDoorCloneS
import Derived.Test.YtbhcojijafbdiaaGreatDoorWalk0
import Derived.Test.YtbhcojijafbdiaaGreatDoorWalk1
import Derived.Test.YtbhcojijafbdiaaGreatDoorWalk4
import Derived.Test.YtbhcojijafbdiaaGreatDoorWalk5
set_option linter.unusedVariables false
set_option maxRecDepth 100000
set_option maxHeartbeats 4000000
namespace Go.Proofs.YtbhcojijafbdiaaGreatDoor.W
open Go Go.RowKit
theorem slices_Index_sequence_endssequence_ends_con (p_s : (List Ends6)) (p_v : Ends6) (ao1 : Option Addr) (cap1 : Nat) (w : World) (H : Heap) (hH : Le H (hp w)) (h1 : SL H encEnds6 ao1 p_s) (hc1 : p_s.length ≤ cap1) (hG : Glob H) (r : Int) (hm : slices_Index_sequence_endssequence_ends p_s p_v = some r) :
  Con Tryz.prog 83 [(.slice ao1 p_s.length cap1), (.agg #[(.bool p_v.a0), (.bool p_v.a1), (.bool p_v.a2), (.bool p_v.a3), (.bool p_v.a4), (.bool p_v.a5)])] w H (fun v _ => v = (.int .i64 r)) := by
 unfold slices_Index_sequence_endssequence_ends at hm
 refine con_of hH Tryz.func83 rfl 19 Tryz.ntmps83 rfl ?_
 refine WP.seq (WP.region ?_)
 refine WL.step (Runs.free rfl) rfl rfl (os_box (cs := [(.bool p_v.a0), (.bool p_v.a1), (.bool p_v.a2), (.bool p_v.a3), (.bool p_v.a4), (.bool p_v.a5)]) rfl rfl rfl (fun b1 => ?_))
 refine wq rfl rfl rfl (ov_assign rfl rfl) ?_
 refine WL.nil (then_normal ?_)
 obtain ⟨k1, hk1, hm⟩ := joinK_some hm
 refine WP.seq_join (fun g' S' => Sub [(1000000007, (.bool false))] g' ∧ (∀ w', S' w' → St w H [] H w') ∧ k1 = some r) ?_ ?_
 ·
  skip
  refine WP.seq (WP.region ?_)
  refine wq rfl rfl rfl (ov_move rfl rfl) ?_
  refine wq rfl rfl rfl (ov_len_slice Tryz.underlying88 rfl rfl) ?_
  refine wq rfl rfl rfl (ov_move rfl rfl) ?_
  refine WL.nil (then_normal (WP.block ?_))
  refine WP.loop (fun m1 g' S' => ∃ (i1 : Int), Sub [(0, (.slice ao1 p_s.length cap1)), (3, (pB b1 0)), (7, (.int .i64 (p_s.length : Int))), (8, (.int .i64 i1)), (1000000007, (.bool false))] g' ∧ (∀ w', S' w' → St w H [.blk b1 93 [(.bool p_v.a0), (.bool p_v.a1), (.bool p_v.a2), (.bool p_v.a3), (.bool p_v.a4), (.bool p_v.a5)]] H w') ∧ slices_Index_sequence_endssequence_ends_loop1 p_s p_v k1 m1 i1 = some r) ((Int.toNat ((p_s.length : Int) - 0) + 1)) ⟨0, (Sub.cons rfl (Sub.cons rfl (Sub.cons rfl (Sub.cons rfl (Sub.cons rfl (Sub.nil _)))))), fun w' s => s, hm⟩ ?_ ?_
  ·
   rintro g' S' ⟨_, _, _, hm⟩
   exact none_some hm
  ·
   rintro m1 g' S' ⟨i1, hsub1, hS1, hm⟩
   refine WP.sub hsub1 (WP.weaken hS1 ?_)
   rw [slices_Index_sequence_endssequence_ends_loop1] at hm
   refine WP.seq (WP.region ?_)
   refine wq rfl rfl rfl (ov_lss rfl rfl rfl) ?_
   refine WL.nil (then_normal (WP.seq ?_))
   refine WP.cond rfl (fun hc2 => ?_) (fun hc2 => ?_)
   ·
    replace hm := ite_t hc2 hm
    refine WP.skip (then_normal (WP.seq (WP.block (WP.seq (WP.region ?_)))))
    refine wq rfl rfl rfl (ov_move rfl rfl) ?_
    refine wq rfl rfl rfl (ov_assign rfl rfl) ?_
    refine WL.nil (then_normal (WP.seq ?_))
    refine WP.region_draws (by kernel_rfl) (by kernel_rfl) (fun _ s => s.drew) ?_
    refine QL.quiet (Runs.free rfl) rfl rfl (OV.quiet (ov_load_whole (i := 0) Tryz.isAgg93 Tryz.sizeOf93 rfl rfl rfl rfl)) ?_
    refine QL.quiet (Runs.free rfl) rfl rfl (OV.quiet (ov_move rfl rfl)) ?_
    refine QL.quiet (Runs.free rfl) rfl rfl (OV.quiet (ov_move rfl rfl)) ?_
    obtain ⟨x1, e1, hm⟩ := bind_some hm
    obtain ⟨h2, h3, h4, cs1, h5, h6⟩ := h1.get e1 (by decide)
    obtain rfl : cs1 = [(.bool x1.a0), (.bool x1.a1), (.bool x1.a2), (.bool x1.a3), (.bool x1.a4), (.bool x1.a5)] := h5
    refine QL.quiet (Runs.free rfl) rfl rfl (OV.quiet (ov_indexAddr Tryz.underlying88 Tryz.sizeOf93 rfl rfl rfl h2 h3 h4)) ?_
    refine QL.quiet (Runs.free rfl) rfl rfl (OV.quiet (ov_load_elems (vs := [(.bool x1.a0), (.bool x1.a1), (.bool x1.a2), (.bool x1.a3), (.bool x1.a4), (.bool x1.a5)]) Tryz.isAgg93 Tryz.sizeOf93 rfl rfl rfl h6 h4)) ?_
    refine QL.quiet (Runs.free rfl) rfl rfl (OV.quiet (eql_struct93 (a := p_v) (b := x1) rfl rfl rfl)) ?_
    refine QL.nil ?_
    refine then_normal ?_
    refine WP.cond rfl (fun hc3 => ?_) (fun hc3 => ?_)
    ·
     replace hm := ite_t hc3 hm
     refine WP.seq (WP.region ?_)
     refine wq rfl rfl rfl (ov_move rfl rfl) ?_
     refine wq rfl rfl rfl (ov_assign rfl rfl) ?_
     refine WL.nil (then_normal (WP.ret (block_ret (then_ret (then_ret (block_ret (then_ret ?_)))))))
     obtain rfl := Option.some.inj hm
     refine retQ_ret Tryz.results83 (Res.tmp rfl Res.nil) rfl (fun w' s => ⟨s.below, ?_⟩)
     exact rfl
    ·
     replace hm := ite_f hc3 hm
     refine WP.skip (block_normal (then_normal (WP.region ?_)))
     refine wq rfl rfl rfl (ov_add rfl rfl rfl) ?_
     refine wq rfl rfl rfl (ov_move rfl rfl) ?_
     refine WL.nil (then_normal ?_)
     exact ⟨(IntKind.wrap .i64 (i1 + 1)), (Sub.cons rfl (Sub.cons rfl (Sub.cons rfl (Sub.cons rfl (Sub.cons rfl (Sub.nil _)))))), fun w' s => s, hm⟩
   ·
    replace hm := ite_f hc2 hm
    refine WP.exit (then_exit (then_exit (block_here (then_normal ?_))))
    exact ⟨(Sub.cons rfl (Sub.nil _)), fun w' s => (s.select [] (by decide) rfl), hm⟩
 ·
  rintro g' S' ⟨hsub2, hS2, hm⟩
  refine WP.sub hsub2 (WP.weaken hS2 ?_)
  replace hm := hk1.symm.trans hm
  refine WP.seq (WP.region ?_)
  refine wq rfl rfl rfl (ov_assign rfl rfl) ?_
  refine WL.nil (then_normal (WP.ret ?_))
  obtain rfl := Option.some.inj hm
  refine retQ_ret Tryz.results83 (Res.tmp rfl Res.nil) rfl (fun w' s => ⟨s.below, ?_⟩)
  exact rfl

theorem slices_Contains_sequence_endssequence_ends_con (p_s : (List Ends6)) (p_v : Ends6) (ao1 : Option Addr) (cap1 : Nat) (w : World) (H : Heap) (hH : Le H (hp w)) (h1 : SL H encEnds6 ao1 p_s) (hc1 : p_s.length ≤ cap1) (hG : Glob H) (r : Bool) (hm : slices_Contains_sequence_endssequence_ends p_s p_v = some r) :
  Con Tryz.prog 52 [(.slice ao1 p_s.length cap1), (.agg #[(.bool p_v.a0), (.bool p_v.a1), (.bool p_v.a2), (.bool p_v.a3), (.bool p_v.a4), (.bool p_v.a5)])] w H (fun v _ => v = (.bool r)) := by
 unfold slices_Contains_sequence_endssequence_ends at hm
 refine con_of hH Tryz.func52 rfl 9 Tryz.ntmps52 rfl ?_
 refine WP.seq (WP.region ?_)
 refine WL.step (Runs.free rfl) rfl rfl (os_box (cs := [(.bool p_v.a0), (.bool p_v.a1), (.bool p_v.a2), (.bool p_v.a3), (.bool p_v.a4), (.bool p_v.a5)]) rfl rfl rfl (fun b1 => ?_))
 refine wq rfl rfl rfl (ov_assign rfl rfl) ?_
 refine WL.nil (then_normal (WP.seq (WP.region ?_)))
 refine wq rfl rfl rfl (ov_move rfl rfl) ?_
 refine wq rfl rfl rfl (ov_load_whole (i := 0) Tryz.isAgg93 Tryz.sizeOf93 rfl rfl rfl rfl) ?_
 obtain ⟨r1, e1, hm⟩ := bind_some hm
 refine WL.quiet (Runs.free rfl) rfl rfl (oq_con (r := (.int .i64 r1)) Tryz.call83 rfl rfl (fun w' s => ⟨_, (slices_Index_sequence_endssequence_ends_con p_s p_v ao1 cap1  w' H s.hold h1 hc1 hG r1 e1)⟩)) ?_
 refine wq rfl rfl rfl (ov_geq rfl rfl rfl) ?_
 refine wq rfl rfl rfl (ov_assign rfl rfl) ?_
 refine WL.nil (then_normal (WP.ret ?_))
 obtain rfl := Option.some.inj hm
 refine retQ_ret Tryz.results52 (Res.tmp rfl Res.nil) rfl (fun w' s => ⟨s.below, ?_⟩)
 exact rfl

theorem sequence_Repeats_con (p_s : Sequence) (ao1 : Option Addr) (cap1 : Nat) (w : World) (H : Heap) (hH : Le H (hp w)) (h1 : SL H encStep ao1 p_s.steps) (hc1 : p_s.steps.length ≤ cap1) (hG : Glob H) (r : ((List Int) × Int)) (hm : sequence_Repeats p_s = some r) :
  Con Tryz.prog 18 [(.agg #[(.int .i64 p_s.actuators), (.slice ao1 p_s.steps.length cap1)])] w H (fun v H' => ∃ (ao2 : Option Addr) (cap2 : Nat), v = (.tuple #[(.slice ao2 r.1.length cap2), (.int .i64 r.2)]) ∧ SL H' (encInt .i64) ao2 r.1 ∧ r.1.length ≤ cap2) := by
 unfold sequence_Repeats at hm
 refine con_of hH Tryz.func18 rfl 37 Tryz.ntmps18 rfl ?_
 refine WP.seq (WP.region ?_)
 refine WL.step (Runs.free rfl) rfl rfl (os_box (cs := [(.int .i64 p_s.actuators), (.slice ao1 p_s.steps.length cap1)]) rfl rfl rfl (fun b1 => ?_))
 refine wq rfl rfl rfl (ov_assign rfl rfl) ?_
 refine wq rfl rfl rfl (ov_assign rfl rfl) ?_
 refine WL.nil (then_normal (WP.seq (WP.seq (WP.region ?_))))
 refine wq rfl rfl rfl (ov_load_whole (i := 0) Tryz.isAgg24 Tryz.sizeOf24 rfl rfl rfl rfl) ?_
 obtain ⟨r1, e1, hm⟩ := bind_some hm
 refine WL.quiet (Runs.free rfl) rfl rfl (oq_con (r := (.int .i64 r1)) Tryz.call30 rfl rfl (fun w' s => ⟨_, (sequence_Check_con p_s ao1 cap1  w' H s.hold h1 hc1 hG r1 e1)⟩)) ?_
 refine wq rfl rfl rfl (ov_assign rfl rfl) ?_
 refine WL.nil (then_normal (WP.seq (WP.region ?_)))
 refine wq rfl rfl rfl (ov_move rfl rfl) ?_
 refine wq rfl rfl rfl (ov_neq rfl rfl rfl) ?_
 refine WL.nil (then_normal ?_)
 refine WP.cond rfl (fun hc3 => ?_) (fun hc3 => ?_)
 ·
  replace hm := ite_t hc3 hm
  refine WP.seq (WP.region ?_)
  refine wq rfl rfl rfl (ov_move rfl rfl) ?_
  refine wq rfl rfl rfl (ov_assign rfl rfl) ?_
  refine wq rfl rfl rfl (ov_assign rfl rfl) ?_
  refine WL.nil (then_normal (WP.ret (then_ret ?_)))
  obtain rfl := Option.some.inj hm
  refine retQ_ret Tryz.results18 (Res.tmp rfl (Res.tmp rfl Res.nil)) rfl (fun w' s => ⟨s.below, ?_⟩)
  exact ⟨none, 0, rfl, SL.nil _ _ _, Nat.le_refl _⟩
 ·
  replace hm := ite_f hc3 hm
  refine WP.skip (then_normal (WP.seq (WP.region ?_)))
  refine WL.step (Runs.free rfl) rfl rfl (os_alloc (cs := [(.slice none 0 0)]) Tryz.zeroValue88 rfl rfl (fun b2 => ?_))
  refine WL.nil (then_normal (WP.seq (WP.region ?_)))
  refine WL.step (Runs.free rfl) rfl rfl (os_alloc (cs := [(.slice none 0 0)]) Tryz.zeroValue42 rfl rfl (fun b3 => ?_))
  refine WL.nil (then_normal (WP.seq (WP.seq (WP.region ?_))))
  refine wq rfl rfl rfl (ov_load_whole (i := 2) Tryz.isAgg24 Tryz.sizeOf24 rfl rfl rfl rfl) ?_
  refine WL.step (Runs.free rfl) rfl rfl (os_inline (cap := []) (vs := [(.agg #[(.int .i64 p_s.actuators), (.slice ao1 p_s.steps.length cap1)])]) Tryz.call51 rfl rfl rfl Tryz.func51 rfl 4 Tryz.ntmps51 rfl (fun w' s => ?_))
  refine WP.seq (WP.region ?_)
  refine WL.step (Runs.free rfl) rfl rfl (os_box (cs := [(.int .i64 p_s.actuators), (.slice ao1 p_s.steps.length cap1)]) rfl rfl rfl (fun b4 => ?_))
  refine wq rfl rfl rfl (ov_assign rfl rfl) ?_
  refine WL.nil (then_normal (WP.seq (WP.region ?_)))
  refine wq rfl rfl rfl (ov_makeFunc' (first := []) rfl rfl rfl) ?_
  refine wq rfl rfl rfl (ov_assign rfl rfl) ?_
  refine WL.nil (then_normal (WP.ret ?_))
  refine retQ_ret (v := (.func (.func 82) #[] #[(pB b4 0)])) Tryz.results51 (Res.tmp rfl Res.nil) rfl (fun w' s => ⟨_, ?_, s⟩)
  refine WL.nil (then_normal (WP.block ?_))
  refine WP.range (ps := [16, 17]) (cap := [(pB b4 0)]) Tryz.call82 rfl Tryz.func82 rfl 29 Tryz.ntmps82 rfl (fun l1 D1 R1 hr1 => ?_)
  refine WP.seq (WP.region ?_)
  refine WL.step (Runs.free rfl) rfl rfl (os_alloc (cs := [(.bool false), (.bool false), (.bool false), (.bool false), (.bool false), (.bool false)]) Tryz.zeroValue93 rfl rfl (fun b5 => ?_))
  refine WL.nil (then_normal ?_)
  obtain ⟨k1, hk1, hm⟩ := joinK_some hm
  refine WP.seq_join (fun g' S' => ∃ (c8 : Bool) (c9 : Bool) (c10 : Bool) (c11 : Bool) (c12 : Bool) (c13 : Bool) (l7 : (List Ends6)) (ao9 : Option Addr) (cap9 : Nat) (xs4 : List Value) (l8 : (List Int)) (ao10 : Option Addr) (cap10 : Nat) (xs5 : List Value), RL H encEnds6 l7 xs4 ∧ RL H (encInt .i64) l8 xs5 ∧ Sub [(0, (.func (.yield l1) #[] #[])), (1, (pB b4 0)), (3, (pB b5 0)), (1000000007, (.bool false))] g' ∧ (∀ w', S' w' → St w H [.row 93 (encEnds6).size l7.length (.slice ao9 l7.length cap9) xs4, .row 3 ((encInt .i64)).size l8.length (.slice ao10 l8.length cap10) xs5, .blk b5 93 [(.bool c8), (.bool c9), (.bool c10), (.bool c11), (.bool c12), (.bool c13)], .obj l1 (R1 .ready none), .obj D1 (.deferred (some [])), .blk b4 24 [(.int .i64 p_s.actuators), (.slice ao1 p_s.steps.length cap1)], .blk b3 42 [(.slice ao10 l8.length cap10)], .blk b2 88 [(.slice ao9 l7.length cap9)], .blk b1 24 [(.int .i64 p_s.actuators), (.slice ao1 p_s.steps.length cap1)]] H w') ∧ k1 c8 c9 c10 c11 c12 c13 l7 l8 = some r) ?_ ?_
  ·
   skip
   refine WP.seq (WP.region ?_)
   refine wq rfl rfl rfl (ov_fieldAddr Tryz.underlying24 rfl rfl rfl Tryz.sizeOf22 rfl rfl) ?_
   refine wq rfl rfl rfl (ov_load_box (i := 3) Tryz.isAgg22 rfl rfl rfl rfl) ?_
   refine wq rfl rfl rfl (ov_len_slice Tryz.underlying22 rfl rfl) ?_
   refine wq rfl rfl rfl (ov_move rfl rfl) ?_
   refine WL.nil (then_normal (WP.block ?_))
   have rl1 := RL.nil (α := Int) H (encInt .i64)
   refine WP.weaken (fun _ s => s.nilrow 3 ((encInt .i64)).size) ?_
   have rl2 := RL.nil (α := Ends6) H encEnds6
   refine WP.weaken (fun _ s => s.nilrow 93 (encEnds6).size) ?_
   refine WP.loop (fun m1 g' S' => ∃ (i1 : Int) (c1 : Bool) (c2 : Bool) (c3 : Bool) (c4 : Bool) (c5 : Bool) (c6 : Bool) (l2 : (List Ends6)) (ao3 : Option Addr) (cap3 : Nat) (xs1 : List Value) (l3 : (List Int)) (ao4 : Option Addr) (cap4 : Nat) (xs2 : List Value), RL H encEnds6 l2 xs1 ∧ RL H (encInt .i64) l3 xs2 ∧ Sub [(0, (.func (.yield l1) #[] #[])), (1, (pB b4 0)), (3, (pB b5 0)), (7, (.slice ao1 p_s.steps.length cap1)), (8, (.int .i64 (p_s.steps.length : Int))), (9, (.int .i64 i1)), (1000000007, (.bool false))] g' ∧ (∀ w', S' w' → St w H [.row 93 (encEnds6).size l2.length (.slice ao3 l2.length cap3) xs1, .row 3 ((encInt .i64)).size l3.length (.slice ao4 l3.length cap4) xs2, .blk b5 93 [(.bool c1), (.bool c2), (.bool c3), (.bool c4), (.bool c5), (.bool c6)], .obj l1 (R1 .ready none), .obj D1 (.deferred (some [])), .blk b4 24 [(.int .i64 p_s.actuators), (.slice ao1 p_s.steps.length cap1)], .blk b3 42 [(.slice ao4 l3.length cap4)], .blk b2 88 [(.slice ao3 l2.length cap3)], .blk b1 24 [(.int .i64 p_s.actuators), (.slice ao1 p_s.steps.length cap1)]] H w') ∧ sequence_Repeats_loop1 p_s k1 m1 i1 c1 c2 c3 c4 c5 c6 l2 l3 = some r) ((Int.toNat ((p_s.steps.length : Int) - 0) + 1)) ⟨0, false, false, false, false, false, false, ([] : List Ends6), none, 0, [], ([] : List Int), none, 0, [], rl2, rl1, (Sub.cons rfl (Sub.cons rfl (Sub.cons rfl (Sub.cons rfl (Sub.cons rfl (Sub.cons rfl (Sub.cons rfl (Sub.nil _)))))))), fun w' s => s, hm⟩ ?_ ?_
   ·
    rintro g' S' ⟨_, _, _, _, _, _, _, _, _, _, _, _, _, _, _, _, _, _, _, hm⟩
    exact none_some hm
   ·
    rintro m1 g' S' ⟨i1, c1, c2, c3, c4, c5, c6, l2, ao3, cap3, xs1, l3, ao4, cap4, xs2, rl3, rl4, hsub1, hS1, hm⟩
    refine WP.sub hsub1 (WP.weaken hS1 ?_)
    rw [sequence_Repeats_loop1] at hm
    refine WP.seq (WP.region ?_)
    refine wq rfl rfl rfl (ov_lss rfl rfl rfl) ?_
    refine WL.nil (then_normal (WP.seq ?_))
    refine WP.cond rfl (fun hc4 => ?_) (fun hc4 => ?_)
    ·
     replace hm := ite_t hc4 hm
     refine WP.skip (then_normal (WP.seq (WP.block (WP.seq (WP.region ?_)))))
     refine wq rfl rfl rfl (ov_move rfl rfl) ?_
     obtain ⟨x1, e2, hm⟩ := bind_some hm
     obtain ⟨h4, h5, h6, cs1, h7, h8⟩ := h1.get e2 (by decide)
     obtain ⟨ao5, cap5, rfl, h3, hc5⟩ := h7
     refine wq rfl rfl rfl (ov_indexAddr Tryz.underlying22 Tryz.sizeOf37 rfl rfl rfl h4 h5 h6) ?_
     refine wq rfl rfl rfl (ov_load_elems (vs := [(.slice ao5 x1.strokes.length cap5), (.int .i64 x1.wait)]) Tryz.isAgg37 Tryz.sizeOf37 rfl rfl rfl h8 h6) ?_
     refine WL.step (Runs.free rfl) rfl rfl (os_alloc (cs := [(.slice none 0 0), (.int .i64 0)]) Tryz.zeroValue37 rfl rfl (fun b6 => ?_))
     refine wq rfl rfl rfl (ov_assign rfl rfl) ?_
     refine WL.step0 (Runs.free rfl) rfl (os_store (i := 0) (vs := [(.slice ao5 x1.strokes.length cap5), (.int .i64 x1.wait)]) (cs' := [(.slice ao5 x1.strokes.length cap5), (.int .i64 x1.wait)]) Tryz.sizeOf37 rfl rfl rfl rfl rfl rfl rfl rfl rfl ?_)
     refine WL.nil (then_normal (WP.seq (WP.seq (WP.region ?_))))
     refine wq rfl rfl rfl (ov_move rfl rfl) ?_
     refine wq rfl rfl rfl (ov_move rfl rfl) ?_
     refine wq rfl rfl rfl (ov_load_whole (i := 3) Tryz.isAgg93 Tryz.sizeOf93 rfl rfl rfl rfl) ?_
     refine WL.yield (i := 4) (vs := [(.int .i64 i1), (.agg #[(.bool c1), (.bool c2), (.bool c3), (.bool c4), (.bool c5), (.bool c6)])]) (Runs.free rfl) rfl rfl rfl rfl rfl hr1 rfl rfl rfl ?_
     refine WP.seq (WP.region ?_)
     refine wq rfl rfl rfl (ov_assign rfl rfl) ?_
     refine WL.nil (then_normal (WP.region ?_))
     refine WL.step (Runs.free rfl) rfl rfl (os_alloc (cs := [(.bool false), (.bool false), (.bool false), (.bool false), (.bool false), (.bool false)]) Tryz.zeroValue93 rfl rfl (fun b7 => ?_))
     refine WL.step0 (Runs.free rfl) rfl (os_store (i := 0) (vs := [(.bool c1), (.bool c2), (.bool c3), (.bool c4), (.bool c5), (.bool c6)]) (cs' := [(.bool c1), (.bool c2), (.bool c3), (.bool c4), (.bool c5), (.bool c6)]) Tryz.sizeOf93 rfl rfl rfl rfl rfl rfl rfl rfl rfl ?_)
     refine WL.nil (then_normal ?_)
     refine begin_of (i := 5) rfl ?_
     refine WP.block ?_
     obtain ⟨k2, hk2, hm⟩ := joinK_some hm
     refine WP.seq_join (fun g' S' => ∃ (l5 : (List Int)) (ao7 : Option Addr) (cap7 : Nat) (xs3 : List Value), RL H (encInt .i64) l5 xs3 ∧ Sub [(5, (pB b2 0)), (8, (pB b7 0)), (1000000007, (.bool false))] g' ∧ (∀ w', S' w' → St w H [.blk b7 93 [(.bool c1), (.bool c2), (.bool c3), (.bool c4), (.bool c5), (.bool c6)], .blk b6 37 [(.slice ao5 x1.strokes.length cap5), (.int .i64 x1.wait)], .row 93 (encEnds6).size l2.length (.slice ao3 l2.length cap3) xs1, .row 3 ((encInt .i64)).size l5.length (.slice ao7 l5.length cap7) xs3, .blk b5 93 [(.bool c1), (.bool c2), (.bool c3), (.bool c4), (.bool c5), (.bool c6)], .obj l1 (R1 .busy none), .obj D1 (.deferred (some [])), .blk b4 24 [(.int .i64 p_s.actuators), (.slice ao1 p_s.steps.length cap1)], .blk b3 42 [(.slice ao7 l5.length cap7)], .blk b2 88 [(.slice ao3 l2.length cap3)], .blk b1 24 [(.int .i64 p_s.actuators), (.slice ao1 p_s.steps.length cap1)]] H w') ∧ k2 l5 = some r) ?_ ?_
     ·
      skip
      refine WP.seq (WP.region ?_)
      refine wq rfl rfl rfl (ov_move rfl rfl) ?_
      refine wq rfl rfl rfl (ov_fieldAddr Tryz.underlying24 rfl rfl rfl Tryz.sizeOf22 rfl rfl) ?_
      refine wq rfl rfl rfl (ov_load_box (i := 10) Tryz.isAgg22 rfl rfl rfl rfl) ?_
      refine wq rfl rfl rfl (ov_len_slice Tryz.underlying22 rfl rfl) ?_
      refine wq rfl rfl rfl (ov_lss rfl rfl rfl) ?_
      refine wq rfl rfl rfl (ov_move rfl rfl) ?_
      obtain ⟨c7, e3, hm⟩ := bind_some hm
      refine WL.cut_bool 4 27 (x := c7) ?_ ?_
      ·
       rcases Bool.eq_false_or_eq_true (decide (i1 < (p_s.steps.length : Int))) with hc6 | hc6
       ·
        skip
        replace hm := ite_t hc6 e3
        refine WL.quiet (Runs.yes rfl rfl rfl hc6) rfl rfl (OV.quiet (ov_load_box (i := 9) Tryz.isAgg88 rfl rfl rfl rfl)) ?_
        refine WL.quiet (Runs.yes rfl rfl rfl hc6) rfl rfl (OV.quiet (ov_load_whole (i := 0) Tryz.isAgg93 Tryz.sizeOf93 rfl rfl rfl rfl)) ?_
        obtain ⟨r2, e4, hm⟩ := bind_some hm
        refine WL.quiet (Runs.yes rfl rfl rfl hc6) rfl rfl (oq_con (r := (.bool r2)) Tryz.call52 rfl rfl (fun w' s => ⟨_, (slices_Contains_sequence_endssequence_ends_con l2 (Ends6.mk c1 c2 c3 c4 c5 c6) ao3 cap3 w' (hp w') (Le.refl _) (s.row_arg (i := 2) rfl rl3).1 (s.row_arg (i := 2) rfl rl3).2 (hG.mono s.hold) r2 e4)⟩)) ?_
        refine wq rfl rfl rfl (ov_pick_true rfl (guard_eq rfl hc6) rfl) ?_
        exact WL.nil ⟨Sub.cons' rfl (congrArg Value.bool (Option.some.inj hm)) (Sub.skip rfl (Sub.skip rfl (Sub.skip rfl (Sub.skip rfl (Sub.refl _))))), fun _ s => s⟩
       ·
        skip
        replace hm := ite_f hc6 e3
        refine WL.idle (Idle.no rfl rfl rfl hc6) rfl rfl ?_
        refine WL.idle (Idle.no rfl rfl rfl hc6) rfl rfl ?_
        refine WL.idle (Idle.no rfl rfl rfl hc6) rfl rfl ?_
        refine wq rfl rfl rfl (ov_pick_false rfl (guard_eq rfl hc6) rfl) ?_
        exact WL.nil ⟨Sub.cons' rfl (congrArg Value.bool (Option.some.inj hm)) (Sub.skip rfl (Sub.skip rfl (Sub.skip rfl (Sub.skip rfl (Sub.refl _))))), fun _ s => s⟩
      refine WL.nil (then_normal ?_)
      refine WP.cond rfl (fun hc7 => ?_) (fun hc7 => ?_)
      ·
       replace hm := ite_t hc7 hm
       refine WP.region ?_
       refine wq rfl rfl rfl (ov_load_box (i := 8) Tryz.isAgg42 rfl rfl rfl rfl) ?_
       refine wq rfl rfl rfl (ov_move rfl rfl) ?_
       have rl5 : RL H (encInt .i64) ([i1] : List Int) [(.int .i64 i1)] := RL.cons (cs := [(.int .i64 i1)]) (xs := []) rfl (RL.nil _ _)
       refine WL.step (Runs.free rfl) rfl rfl (os_buildSlice (cs := [(.int .i64 i1)]) (E := 3) (sz := 1) rfl rfl (fun _ => by kernel_rfl) rfl (by decide) (fun b8 => ?_))
       obtain ⟨l4, e5, hm⟩ := bind_some hm
       refine WL.step (Runs.free rfl) rfl rfl (os_app (i := 4) (j := 0) (En := (encInt .i64)) (xs := xs2) (ys := [(.int .i64 i1)]) Tryz.underlying42 (by kernel_rfl : (Tryz.prog.info? 3).map (fun i => (i.zero, i.size, i.bytes)) = some (some (.int .i64 0), ((encInt .i64)).size, 8)) rfl (by decide) rfl rfl rfl rfl rfl rfl rl4 rl5 e5 (fun ao6 cap6 rl6 => ?_))
       refine WL.step0 (Runs.free rfl) rfl (os_store (i := 9) (vs := [(.slice ao6 (l3 ++ ([i1] : List Int)).length cap6)]) (cs' := [(.slice ao6 (l3 ++ ([i1] : List Int)).length cap6)]) Tryz.sizeOf42 rfl rfl rfl rfl rfl rfl rfl rfl rfl ?_)
       refine WL.nil (then_normal ?_)
       exact ⟨(l3 ++ ([i1] : List Int)), ao6, cap6, (xs2 ++ [(.int .i64 i1)]), rl6, (Sub.cons rfl (Sub.cons rfl (Sub.cons rfl (Sub.nil _)))), fun w' s => (s.select [1, 2, 3, 4, 5, 6, 7, 8, 9, 10, 11] (by decide) rfl), hm⟩
      ·
       replace hm := ite_f hc7 hm
       refine WP.skip (then_normal ?_)
       exact ⟨l3, ao4, cap4, xs2, rl4, (Sub.cons rfl (Sub.cons rfl (Sub.cons rfl (Sub.nil _)))), fun w' s => s, hm⟩
     ·
      rintro g' S' ⟨l5, ao7, cap7, xs3, rl7, hsub2, hS2, hm⟩
      refine WP.sub hsub2 (WP.weaken hS2 ?_)
      replace hm := (congrFun hk2 l5).symm.trans hm
      refine WP.region ?_
      refine wq rfl rfl rfl (ov_load_box (i := 9) Tryz.isAgg88 rfl rfl rfl rfl) ?_
      refine wq rfl rfl rfl (ov_load_whole (i := 0) Tryz.isAgg93 Tryz.sizeOf93 rfl rfl rfl rfl) ?_
      have rl8 : RL H encEnds6 ([(Ends6.mk c1 c2 c3 c4 c5 c6)] : List Ends6) [(.bool c1), (.bool c2), (.bool c3), (.bool c4), (.bool c5), (.bool c6)] := RL.cons (cs := [(.bool c1), (.bool c2), (.bool c3), (.bool c4), (.bool c5), (.bool c6)]) (xs := []) rfl (RL.nil _ _)
      refine WL.step (Runs.free rfl) rfl rfl (os_buildSlice (cs := [(.bool c1), (.bool c2), (.bool c3), (.bool c4), (.bool c5), (.bool c6)]) (E := 93) (sz := 6) rfl rfl (fun _ => by kernel_rfl) rfl (by decide) (fun b9 => ?_))
      obtain ⟨l6, e6, hm⟩ := bind_some hm
      refine WL.step (Runs.free rfl) rfl rfl (os_app (i := 3) (j := 0) (En := encEnds6) (xs := xs1) (ys := [(.bool c1), (.bool c2), (.bool c3), (.bool c4), (.bool c5), (.bool c6)]) Tryz.underlying88 (by kernel_rfl : (Tryz.prog.info? 93).map (fun i => (i.zero, i.size, i.bytes)) = some (some (.agg #[(.bool false), (.bool false), (.bool false), (.bool false), (.bool false), (.bool false)]), (encEnds6).size, 6)) rfl (by decide) rfl rfl rfl rfl rfl rfl rl3 rl8 e6 (fun ao8 cap8 rl9 => ?_))
      refine WL.step0 (Runs.free rfl) rfl (os_store (i := 10) (vs := [(.slice ao8 (l2 ++ ([(Ends6.mk c1 c2 c3 c4 c5 c6)] : List Ends6)).length cap8)]) (cs' := [(.slice ao8 (l2 ++ ([(Ends6.mk c1 c2 c3 c4 c5 c6)] : List Ends6)).length cap8)]) Tryz.sizeOf88 rfl rfl rfl rfl rfl rfl rfl rfl rfl ?_)
      refine WL.nil (block_normal ?_)
      refine round_normal (i := 6) rfl ?_
      refine wq rfl rfl rfl (ov_not rfl rfl) ?_
      refine WL.nil (then_normal (WP.cond_false rfl (WP.skip (then_normal (WP.region ?_)))))
      refine wq rfl rfl rfl (ov_load_whole (i := 5) Tryz.isAgg93 Tryz.sizeOf93 rfl rfl rfl rfl) ?_
      refine wq rfl rfl rfl (ov_load_whole (i := 2) Tryz.isAgg37 Tryz.sizeOf37 rfl rfl rfl rfl) ?_
      obtain ⟨r3, e7, hm⟩ := bind_some hm
      refine WL.quiet (Runs.free rfl) rfl rfl (oq_con (r := (.agg #[(.bool r3.a0), (.bool r3.a1), (.bool r3.a2), (.bool r3.a3), (.bool r3.a4), (.bool r3.a5)])) Tryz.call60 rfl rfl (fun w' s => ⟨_, (sequence_ends_behind_con (Ends6.mk c1 c2 c3 c4 c5 c6) x1 ao5 cap5  w' H s.hold h3 hc5 hG r3 e7)⟩)) ?_
      refine WL.step0 (Runs.free rfl) rfl (os_store (i := 5) (vs := [(.bool r3.a0), (.bool r3.a1), (.bool r3.a2), (.bool r3.a3), (.bool r3.a4), (.bool r3.a5)]) (cs' := [(.bool r3.a0), (.bool r3.a1), (.bool r3.a2), (.bool r3.a3), (.bool r3.a4), (.bool r3.a5)]) Tryz.sizeOf93 rfl rfl rfl rfl rfl rfl rfl rfl rfl ?_)
      refine WL.nil (block_normal (then_normal (WP.region ?_)))
      refine wq rfl rfl rfl (ov_add rfl rfl rfl) ?_
      refine wq rfl rfl rfl (ov_move rfl rfl) ?_
      refine WL.nil (then_normal ?_)
      exact ⟨(IntKind.wrap .i64 (i1 + 1)), r3.a0, r3.a1, r3.a2, r3.a3, r3.a4, r3.a5, (l2 ++ ([(Ends6.mk c1 c2 c3 c4 c5 c6)] : List Ends6)), ao8, cap8, (xs1 ++ [(.bool c1), (.bool c2), (.bool c3), (.bool c4), (.bool c5), (.bool c6)]), l5, ao7, cap7, xs3, rl9, rl7, (Sub.cons rfl (Sub.cons rfl (Sub.cons rfl (Sub.cons rfl (Sub.cons rfl (Sub.cons rfl (Sub.cons rfl (Sub.nil _)))))))), fun w' s => (s.select [3, 4, 5, 6, 7, 8, 9, 10, 11] (by decide) rfl), hm⟩
    ·
     replace hm := ite_f hc4 hm
     refine WP.exit (then_exit (then_exit (block_here (then_normal ?_))))
     exact ⟨c1, c2, c3, c4, c5, c6, l2, ao3, cap3, xs1, l3, ao4, cap4, xs2, rl3, rl4, (Sub.cons rfl (Sub.cons rfl (Sub.cons rfl (Sub.cons rfl (Sub.nil _))))), fun w' s => s, hm⟩
  ·
   rintro g' S' ⟨c8, c9, c10, c11, c12, c13, l7, ao9, cap9, xs4, l8, ao10, cap10, xs5, rl10, rl11, hsub3, hS3, hm⟩
   refine WP.sub hsub3 (WP.weaken hS3 ?_)
   replace hm := (congrFun (congrFun (congrFun (congrFun (congrFun (congrFun (congrFun (congrFun hk1 c8) c9) c10) c11) c12) c13) l7) l8).symm.trans hm
   refine WP.region ?_
   refine wq rfl rfl rfl (ov_move rfl rfl) ?_
   refine wq rfl rfl rfl (ov_fieldAddr Tryz.underlying24 rfl rfl rfl Tryz.sizeOf22 rfl rfl) ?_
   refine wq rfl rfl rfl (ov_load_box (i := 5) Tryz.isAgg22 rfl rfl rfl rfl) ?_
   refine wq rfl rfl rfl (ov_len_slice Tryz.underlying22 rfl rfl) ?_
   refine wq rfl rfl rfl (ov_load_whole (i := 2) Tryz.isAgg93 Tryz.sizeOf93 rfl rfl rfl rfl) ?_
   refine WL.yield (i := 3) (vs := [(.int .i64 (p_s.steps.length : Int)), (.agg #[(.bool c8), (.bool c9), (.bool c10), (.bool c11), (.bool c12), (.bool c13)])]) (Runs.free rfl) rfl rfl rfl rfl rfl hr1 rfl rfl rfl ?_
   refine WP.seq (WP.region ?_)
   refine wq rfl rfl rfl (ov_assign rfl rfl) ?_
   refine WL.nil (then_normal (WP.region ?_))
   refine WL.step (Runs.free rfl) rfl rfl (os_alloc (cs := [(.bool false), (.bool false), (.bool false), (.bool false), (.bool false), (.bool false)]) Tryz.zeroValue93 rfl rfl (fun b10 => ?_))
   refine WL.step0 (Runs.free rfl) rfl (os_store (i := 0) (vs := [(.bool c8), (.bool c9), (.bool c10), (.bool c11), (.bool c12), (.bool c13)]) (cs' := [(.bool c8), (.bool c9), (.bool c10), (.bool c11), (.bool c12), (.bool c13)]) Tryz.sizeOf93 rfl rfl rfl rfl rfl rfl rfl rfl rfl ?_)
   refine WL.nil (then_normal ?_)
   refine begin_of (i := 4) rfl ?_
   refine WP.block ?_
   obtain ⟨k3, hk3, hm⟩ := joinK_some hm
   refine WP.seq_join (fun g' S' => ∃ (l10 : (List Int)) (ao12 : Option Addr) (cap12 : Nat) (xs6 : List Value), RL H (encInt .i64) l10 xs6 ∧ Sub [(5, (pB b2 0)), (8, (pB b10 0)), (1000000007, (.bool false))] g' ∧ (∀ w', S' w' → St w H [.blk b10 93 [(.bool c8), (.bool c9), (.bool c10), (.bool c11), (.bool c12), (.bool c13)], .row 93 (encEnds6).size l7.length (.slice ao9 l7.length cap9) xs4, .row 3 ((encInt .i64)).size l10.length (.slice ao12 l10.length cap12) xs6, .blk b5 93 [(.bool c8), (.bool c9), (.bool c10), (.bool c11), (.bool c12), (.bool c13)], .obj l1 (R1 .busy none), .obj D1 (.deferred (some [])), .blk b4 24 [(.int .i64 p_s.actuators), (.slice ao1 p_s.steps.length cap1)], .blk b3 42 [(.slice ao12 l10.length cap12)], .blk b2 88 [(.slice ao9 l7.length cap9)], .blk b1 24 [(.int .i64 p_s.actuators), (.slice ao1 p_s.steps.length cap1)]] H w') ∧ k3 l10 = some r) ?_ ?_
   ·
    skip
    refine WP.seq (WP.region ?_)
    refine wq rfl rfl rfl (ov_move rfl rfl) ?_
    refine wq rfl rfl rfl (ov_fieldAddr Tryz.underlying24 rfl rfl rfl Tryz.sizeOf22 rfl rfl) ?_
    refine wq rfl rfl rfl (ov_load_box (i := 9) Tryz.isAgg22 rfl rfl rfl rfl) ?_
    refine wq rfl rfl rfl (ov_len_slice Tryz.underlying22 rfl rfl) ?_
    refine wq rfl rfl rfl (ov_lss rfl rfl rfl) ?_
    refine wq rfl rfl rfl (ov_move rfl rfl) ?_
    obtain ⟨c14, e8, hm⟩ := bind_some hm
    refine WL.cut_bool 4 27 (x := c14) ?_ ?_
    ·
     rcases Bool.eq_false_or_eq_true (decide ((p_s.steps.length : Int) < (p_s.steps.length : Int))) with hc8 | hc8
     ·
      skip
      replace hm := ite_t hc8 e8
      refine WL.quiet (Runs.yes rfl rfl rfl hc8) rfl rfl (OV.quiet (ov_load_box (i := 8) Tryz.isAgg88 rfl rfl rfl rfl)) ?_
      refine WL.quiet (Runs.yes rfl rfl rfl hc8) rfl rfl (OV.quiet (ov_load_whole (i := 0) Tryz.isAgg93 Tryz.sizeOf93 rfl rfl rfl rfl)) ?_
      obtain ⟨r4, e9, hm⟩ := bind_some hm
      refine WL.quiet (Runs.yes rfl rfl rfl hc8) rfl rfl (oq_con (r := (.bool r4)) Tryz.call52 rfl rfl (fun w' s => ⟨_, (slices_Contains_sequence_endssequence_ends_con l7 (Ends6.mk c8 c9 c10 c11 c12 c13) ao9 cap9 w' (hp w') (Le.refl _) (s.row_arg (i := 1) rfl rl10).1 (s.row_arg (i := 1) rfl rl10).2 (hG.mono s.hold) r4 e9)⟩)) ?_
      refine wq rfl rfl rfl (ov_pick_true rfl (guard_eq rfl hc8) rfl) ?_
      exact WL.nil ⟨Sub.cons' rfl (congrArg Value.bool (Option.some.inj hm)) (Sub.skip rfl (Sub.skip rfl (Sub.skip rfl (Sub.skip rfl (Sub.refl _))))), fun _ s => s⟩
     ·
      skip
      replace hm := ite_f hc8 e8
      refine WL.idle (Idle.no rfl rfl rfl hc8) rfl rfl ?_
      refine WL.idle (Idle.no rfl rfl rfl hc8) rfl rfl ?_
      refine WL.idle (Idle.no rfl rfl rfl hc8) rfl rfl ?_
      refine wq rfl rfl rfl (ov_pick_false rfl (guard_eq rfl hc8) rfl) ?_
      exact WL.nil ⟨Sub.cons' rfl (congrArg Value.bool (Option.some.inj hm)) (Sub.skip rfl (Sub.skip rfl (Sub.skip rfl (Sub.skip rfl (Sub.refl _))))), fun _ s => s⟩
    refine WL.nil (then_normal ?_)
    refine WP.cond rfl (fun hc9 => ?_) (fun hc9 => ?_)
    ·
     replace hm := ite_t hc9 hm
     refine WP.region ?_
     refine wq rfl rfl rfl (ov_load_box (i := 7) Tryz.isAgg42 rfl rfl rfl rfl) ?_
     refine wq rfl rfl rfl (ov_move rfl rfl) ?_
     have rl12 : RL H (encInt .i64) ([(p_s.steps.length : Int)] : List Int) [(.int .i64 (p_s.steps.length : Int))] := RL.cons (cs := [(.int .i64 (p_s.steps.length : Int))]) (xs := []) rfl (RL.nil _ _)
     refine WL.step (Runs.free rfl) rfl rfl (os_buildSlice (cs := [(.int .i64 (p_s.steps.length : Int))]) (E := 3) (sz := 1) rfl rfl (fun _ => by kernel_rfl) rfl (by decide) (fun b11 => ?_))
     obtain ⟨l9, e10, hm⟩ := bind_some hm
     refine WL.step (Runs.free rfl) rfl rfl (os_app (i := 3) (j := 0) (En := (encInt .i64)) (xs := xs5) (ys := [(.int .i64 (p_s.steps.length : Int))]) Tryz.underlying42 (by kernel_rfl : (Tryz.prog.info? 3).map (fun i => (i.zero, i.size, i.bytes)) = some (some (.int .i64 0), ((encInt .i64)).size, 8)) rfl (by decide) rfl rfl rfl rfl rfl rfl rl11 rl12 e10 (fun ao11 cap11 rl13 => ?_))
     refine WL.step0 (Runs.free rfl) rfl (os_store (i := 8) (vs := [(.slice ao11 (l8 ++ ([(p_s.steps.length : Int)] : List Int)).length cap11)]) (cs' := [(.slice ao11 (l8 ++ ([(p_s.steps.length : Int)] : List Int)).length cap11)]) Tryz.sizeOf42 rfl rfl rfl rfl rfl rfl rfl rfl rfl ?_)
     refine WL.nil (then_normal ?_)
     exact ⟨(l8 ++ ([(p_s.steps.length : Int)] : List Int)), ao11, cap11, (xs5 ++ [(.int .i64 (p_s.steps.length : Int))]), rl13, (Sub.cons rfl (Sub.cons rfl (Sub.cons rfl (Sub.nil _)))), fun w' s => (s.select [1, 2, 3, 4, 5, 6, 7, 8, 9, 10] (by decide) rfl), hm⟩
    ·
     replace hm := ite_f hc9 hm
     refine WP.skip (then_normal ?_)
     exact ⟨l8, ao10, cap10, xs5, rl11, (Sub.cons rfl (Sub.cons rfl (Sub.cons rfl (Sub.nil _)))), fun w' s => s, hm⟩
   ·
    rintro g' S' ⟨l10, ao12, cap12, xs6, rl14, hsub4, hS4, hm⟩
    refine WP.sub hsub4 (WP.weaken hS4 ?_)
    replace hm := (congrFun hk3 l10).symm.trans hm
    refine WP.region ?_
    refine wq rfl rfl rfl (ov_load_box (i := 8) Tryz.isAgg88 rfl rfl rfl rfl) ?_
    refine wq rfl rfl rfl (ov_load_whole (i := 0) Tryz.isAgg93 Tryz.sizeOf93 rfl rfl rfl rfl) ?_
    have rl15 : RL H encEnds6 ([(Ends6.mk c8 c9 c10 c11 c12 c13)] : List Ends6) [(.bool c8), (.bool c9), (.bool c10), (.bool c11), (.bool c12), (.bool c13)] := RL.cons (cs := [(.bool c8), (.bool c9), (.bool c10), (.bool c11), (.bool c12), (.bool c13)]) (xs := []) rfl (RL.nil _ _)
    refine WL.step (Runs.free rfl) rfl rfl (os_buildSlice (cs := [(.bool c8), (.bool c9), (.bool c10), (.bool c11), (.bool c12), (.bool c13)]) (E := 93) (sz := 6) rfl rfl (fun _ => by kernel_rfl) rfl (by decide) (fun b12 => ?_))
    obtain ⟨l11, e11, hm⟩ := bind_some hm
    refine WL.step (Runs.free rfl) rfl rfl (os_app (i := 2) (j := 0) (En := encEnds6) (xs := xs4) (ys := [(.bool c8), (.bool c9), (.bool c10), (.bool c11), (.bool c12), (.bool c13)]) Tryz.underlying88 (by kernel_rfl : (Tryz.prog.info? 93).map (fun i => (i.zero, i.size, i.bytes)) = some (some (.agg #[(.bool false), (.bool false), (.bool false), (.bool false), (.bool false), (.bool false)]), (encEnds6).size, 6)) rfl (by decide) rfl rfl rfl rfl rfl rfl rl10 rl15 e11 (fun ao13 cap13 rl16 => ?_))
    refine WL.step0 (Runs.free rfl) rfl (os_store (i := 9) (vs := [(.slice ao13 (l7 ++ ([(Ends6.mk c8 c9 c10 c11 c12 c13)] : List Ends6)).length cap13)]) (cs' := [(.slice ao13 (l7 ++ ([(Ends6.mk c8 c9 c10 c11 c12 c13)] : List Ends6)).length cap13)]) Tryz.sizeOf88 rfl rfl rfl rfl rfl rfl rfl rfl rfl ?_)
    refine WL.nil (block_normal ?_)
    refine round_normal (i := 5) rfl ?_
    refine WL.nil ?_
    refine retQ_end (v := (.tuple #[])) Tryz.results82 Res.nil rfl (fun w' s => ⟨St w H [.obj l1 (R1 .ready none), .obj D1 (.deferred (some [])), .row 93 (encEnds6).size ([(Ends6.mk c8 c9 c10 c11 c12 c13)] : List Ends6).length (.slice (some ⟨b12, 0, none⟩) ([(Ends6.mk c8 c9 c10 c11 c12 c13)] : List Ends6).length 1) [(.bool c8), (.bool c9), (.bool c10), (.bool c11), (.bool c12), (.bool c13)], .blk b10 93 [(.bool c8), (.bool c9), (.bool c10), (.bool c11), (.bool c12), (.bool c13)], .row 93 (encEnds6).size (l7 ++ ([(Ends6.mk c8 c9 c10 c11 c12 c13)] : List Ends6)).length (.slice ao13 (l7 ++ ([(Ends6.mk c8 c9 c10 c11 c12 c13)] : List Ends6)).length cap13) (xs4 ++ [(.bool c8), (.bool c9), (.bool c10), (.bool c11), (.bool c12), (.bool c13)]), .row 3 ((encInt .i64)).size l10.length (.slice ao12 l10.length cap12) xs6, .blk b5 93 [(.bool c8), (.bool c9), (.bool c10), (.bool c11), (.bool c12), (.bool c13)], .blk b4 24 [(.int .i64 p_s.actuators), (.slice ao1 p_s.steps.length cap1)], .blk b3 42 [(.slice ao12 l10.length cap12)], .blk b2 88 [(.slice ao13 (l7 ++ ([(Ends6.mk c8 c9 c10 c11 c12 c13)] : List Ends6)).length cap13)], .blk b1 24 [(.int .i64 p_s.actuators), (.slice ao1 p_s.steps.length cap1)]] H, ?_, (s.select [5, 6, 0, 1, 2, 3, 4, 7, 8, 9, 10] (by decide) rfl)⟩)
    refine after_normal ?_
    refine block_normal (then_normal (WP.seq (WP.region ?_)))
    refine wq rfl rfl rfl (ov_load_box (i := 7) Tryz.isAgg42 rfl rfl rfl rfl) ?_
    refine wq rfl rfl rfl (ov_assign rfl rfl) ?_
    refine wq rfl rfl rfl (ov_assign rfl rfl) ?_
    refine WL.nil (then_normal (WP.ret ?_))
    obtain rfl := Option.some.inj hm
    refine retQ_retM (i := 0) rfl Tryz.results18 (Res.tmp rfl (Res.tmp rfl Res.nil)) rfl (fun w' s => ⟨s.below, ?_⟩)
    obtain ⟨h9, hc10⟩ := s.ret_row (i := 3) rfl rl14
    exact ⟨ao12, cap12, rfl, h9, hc10⟩

theorem sequence_Words_con (p_s : Sequence) (ao1 : Option Addr) (cap1 : Nat) (w : World) (H : Heap) (hH : Le H (hp w)) (h1 : SL H encStep ao1 p_s.steps) (hc1 : p_s.steps.length ≤ cap1) (hG : Glob H) (r : (Int × Int)) (hm : sequence_Words p_s = some r) :
  Con Tryz.prog 28 [(.agg #[(.int .i64 p_s.actuators), (.slice ao1 p_s.steps.length cap1)])] w H (fun v _ => v = (.tuple #[(.int .i64 r.1), (.int .i64 r.2)])) := by
 unfold sequence_Words at hm
 refine con_of hH Tryz.func28 rfl 36 Tryz.ntmps28 rfl ?_
 refine WP.seq (WP.region ?_)
 refine WL.step (Runs.free rfl) rfl rfl (os_box (cs := [(.int .i64 p_s.actuators), (.slice ao1 p_s.steps.length cap1)]) rfl rfl rfl (fun b1 => ?_))
 refine wq rfl rfl rfl (ov_assign rfl rfl) ?_
 refine wq rfl rfl rfl (ov_assign rfl rfl) ?_
 refine WL.nil (then_normal (WP.seq (WP.seq (WP.region ?_))))
 refine wq rfl rfl rfl (ov_load_whole (i := 0) Tryz.isAgg24 Tryz.sizeOf24 rfl rfl rfl rfl) ?_
 obtain ⟨r1, e1, hm⟩ := bind_some hm
 refine WL.quiet (Runs.free rfl) rfl rfl (oq_con (r := (.int .i64 r1)) Tryz.call30 rfl rfl (fun w' s => ⟨_, (sequence_Check_con p_s ao1 cap1  w' H s.hold h1 hc1 hG r1 e1)⟩)) ?_
 refine wq rfl rfl rfl (ov_assign rfl rfl) ?_
 refine WL.nil (then_normal (WP.seq (WP.region ?_)))
 refine wq rfl rfl rfl (ov_move rfl rfl) ?_
 refine wq rfl rfl rfl (ov_neq rfl rfl rfl) ?_
 refine WL.nil (then_normal ?_)
 refine WP.cond rfl (fun hc2 => ?_) (fun hc2 => ?_)
 ·
  replace hm := ite_t hc2 hm
  refine WP.seq (WP.region ?_)
  refine wq rfl rfl rfl (ov_move rfl rfl) ?_
  refine wq rfl rfl rfl (ov_assign rfl rfl) ?_
  refine wq rfl rfl rfl (ov_assign rfl rfl) ?_
  refine WL.nil (then_normal (WP.ret (then_ret ?_)))
  obtain rfl := Option.some.inj hm
  refine retQ_ret Tryz.results28 (Res.tmp rfl (Res.tmp rfl Res.nil)) rfl (fun w' s => ⟨s.below, ?_⟩)
  exact rfl
 ·
  replace hm := ite_f hc2 hm
  refine WP.skip (then_normal (WP.seq (WP.region ?_)))
  refine wq rfl rfl rfl (ov_assign rfl rfl) ?_
  refine WL.nil (then_normal ?_)
  obtain ⟨k1, hk1, hm⟩ := joinK_some hm
  refine WP.seq_join (fun g' S' => ∃ (i6 : Int), Sub [(5, (.int .i64 i6)), (1000000007, (.bool false))] g' ∧ (∀ w', S' w' → St w H [] H w') ∧ k1 i6 = some r) ?_ ?_
  ·
   skip
   refine WP.seq (WP.region ?_)
   refine wq rfl rfl rfl (ov_fieldAddr Tryz.underlying24 rfl rfl rfl Tryz.sizeOf22 rfl rfl) ?_
   refine wq rfl rfl rfl (ov_load_box (i := 0) Tryz.isAgg22 rfl rfl rfl rfl) ?_
   refine wq rfl rfl rfl (ov_len_slice Tryz.underlying22 rfl rfl) ?_
   refine wq rfl rfl rfl (ov_move rfl rfl) ?_
   refine WL.nil (then_normal (WP.block ?_))
   refine WP.loop (fun m1 g' S' => ∃ (i1 : Int) (i2 : Int), Sub [(5, (.int .i64 i1)), (15, (.slice ao1 p_s.steps.length cap1)), (16, (.int .i64 (p_s.steps.length : Int))), (17, (.int .i64 i2)), (1000000007, (.bool false))] g' ∧ (∀ w', S' w' → St w H [] H w') ∧ sequence_Words_loop1 p_s k1 m1 i1 i2 = some r) ((Int.toNat ((p_s.steps.length : Int) - 0) + 1)) ⟨1, 0, (Sub.cons rfl (Sub.cons rfl (Sub.cons rfl (Sub.cons rfl (Sub.cons rfl (Sub.nil _)))))), fun w' s => (s.select [] (by decide) rfl), hm⟩ ?_ ?_
   ·
    rintro g' S' ⟨_, _, _, _, hm⟩
    exact none_some hm
   ·
    rintro m1 g' S' ⟨i1, i2, hsub1, hS1, hm⟩
    refine WP.sub hsub1 (WP.weaken hS1 ?_)
    rw [sequence_Words_loop1] at hm
    refine WP.seq (WP.region ?_)
    refine wq rfl rfl rfl (ov_lss rfl rfl rfl) ?_
    refine WL.nil (then_normal (WP.seq ?_))
    refine WP.cond rfl (fun hc3 => ?_) (fun hc3 => ?_)
    ·
     replace hm := ite_t hc3 hm
     refine WP.skip (then_normal ?_)
     obtain ⟨k2, hk2, hm⟩ := joinK_some hm
     refine WP.seq_join (fun g' S' => ∃ (i5 : Int), Sub [(5, (.int .i64 i5)), (15, (.slice ao1 p_s.steps.length cap1)), (16, (.int .i64 (p_s.steps.length : Int))), (17, (.int .i64 i2)), (1000000007, (.bool false))] g' ∧ (∀ w', S' w' → St w H [] H w') ∧ k2 i5 = some r) ?_ ?_
     ·
      skip
      refine WP.block (WP.seq (WP.region ?_))
      obtain ⟨x1, e2, hm⟩ := bind_some hm
      obtain ⟨h3, h4, h5, cs1, h6, h7⟩ := h1.get e2 (by decide)
      obtain ⟨ao2, cap2, rfl, h2, hc4⟩ := h6
      refine wq rfl rfl rfl (ov_indexAddr Tryz.underlying22 Tryz.sizeOf37 rfl rfl rfl h3 h4 h5) ?_
      refine wq rfl rfl rfl (ov_load_elems (vs := [(.slice ao2 x1.strokes.length cap2), (.int .i64 x1.wait)]) Tryz.isAgg37 Tryz.sizeOf37 rfl rfl rfl h7 h5) ?_
      refine WL.step (Runs.free rfl) rfl rfl (os_alloc (cs := [(.slice none 0 0), (.int .i64 0)]) Tryz.zeroValue37 rfl rfl (fun b2 => ?_))
      refine WL.step0 (Runs.free rfl) rfl (os_store (i := 0) (vs := [(.slice ao2 x1.strokes.length cap2), (.int .i64 x1.wait)]) (cs' := [(.slice ao2 x1.strokes.length cap2), (.int .i64 x1.wait)]) Tryz.sizeOf37 rfl rfl rfl rfl rfl rfl rfl rfl rfl ?_)
      refine WL.nil (then_normal (WP.seq (WP.region ?_)))
      refine wq rfl rfl rfl (ov_fieldAddr Tryz.underlying37 rfl rfl rfl Tryz.sizeOf25 rfl rfl) ?_
      refine wq rfl rfl rfl (ov_load_box (i := 0) Tryz.isAgg25 rfl rfl rfl rfl) ?_
      refine wq rfl rfl rfl (ov_len_slice Tryz.underlying25 rfl rfl) ?_
      refine wq rfl rfl rfl (ov_move rfl rfl) ?_
      refine WL.nil (then_normal (WP.block ?_))
      refine WP.loop (fun m2 g' S' => ∃ (i3 : Int) (i4 : Int), Sub [(5, (.int .i64 i3)), (15, (.slice ao1 p_s.steps.length cap1)), (16, (.int .i64 (p_s.steps.length : Int))), (17, (.int .i64 i2)), (23, (.int .i64 (x1.strokes.length : Int))), (24, (.int .i64 i4)), (1000000007, (.bool false))] g' ∧ (∀ w', S' w' → St w H [] H w') ∧ sequence_Words_loop2 k2 x1 m2 i3 i4 = some r) ((Int.toNat ((x1.strokes.length : Int) - 0) + 1)) ⟨i1, 0, (Sub.cons rfl (Sub.cons rfl (Sub.cons rfl (Sub.cons rfl (Sub.cons rfl (Sub.cons rfl (Sub.cons rfl (Sub.nil _)))))))), fun w' s => (s.select [] (by decide) rfl), hm⟩ ?_ ?_
      ·
       rintro g' S' ⟨_, _, _, _, hm⟩
       exact none_some hm
      ·
       rintro m2 g' S' ⟨i3, i4, hsub2, hS2, hm⟩
       refine WP.sub hsub2 (WP.weaken hS2 ?_)
       rw [sequence_Words_loop2] at hm
       refine WP.seq (WP.region ?_)
       refine wq rfl rfl rfl (ov_lss rfl rfl rfl) ?_
       refine WL.nil (then_normal (WP.seq ?_))
       refine WP.cond rfl (fun hc5 => ?_) (fun hc5 => ?_)
       ·
        replace hm := ite_t hc5 hm
        refine WP.skip (then_normal (WP.seq (WP.block (WP.seq (WP.region ?_)))))
        refine wq rfl rfl rfl (ov_move rfl rfl) ?_
        refine wq rfl rfl rfl (ov_assign rfl rfl) ?_
        refine WL.nil (then_normal (WP.seq (WP.region ?_)))
        refine wq rfl rfl rfl (ov_move rfl rfl) ?_
        refine wq rfl rfl rfl (ov_move rfl rfl) ?_
        refine wq rfl rfl rfl (ov_add rfl rfl rfl) ?_
        refine wq rfl rfl rfl (ov_mul rfl rfl rfl) ?_
        refine wq rfl rfl rfl (ov_assign rfl rfl) ?_
        refine WL.nil (then_normal (WP.seq (WP.region ?_)))
        refine wq rfl rfl rfl (ov_move rfl rfl) ?_
        refine wq rfl rfl rfl (ov_gtr rfl rfl rfl) ?_
        refine WL.nil (then_normal ?_)
        refine WP.cond rfl (fun hc6 => ?_) (fun hc6 => ?_)
        ·
         replace hm := ite_t hc6 hm
         refine WP.seq (WP.region ?_)
         refine wq rfl rfl rfl (ov_assign rfl rfl) ?_
         refine wq rfl rfl rfl (ov_assign rfl rfl) ?_
         refine WL.nil (then_normal (WP.ret (block_ret (then_ret (then_ret (block_ret (block_ret (then_ret (then_ret (block_ret (then_ret ?_)))))))))))
         obtain rfl := Option.some.inj hm
         refine retQ_ret Tryz.results28 (Res.tmp rfl (Res.tmp rfl Res.nil)) rfl (fun w' s => ⟨s.below, ?_⟩)
         exact rfl
        ·
         replace hm := ite_f hc6 hm
         refine WP.skip (block_normal (then_normal (WP.region ?_)))
         refine wq rfl rfl rfl (ov_add rfl rfl rfl) ?_
         refine wq rfl rfl rfl (ov_move rfl rfl) ?_
         refine WL.nil (then_normal ?_)
         exact ⟨(IntKind.wrap .i64 (i3 * (IntKind.wrap .i64 (i4 + 1)))), (IntKind.wrap .i64 (i4 + 1)), (Sub.cons rfl (Sub.cons rfl (Sub.cons rfl (Sub.cons rfl (Sub.cons rfl (Sub.cons rfl (Sub.cons rfl (Sub.nil _)))))))), fun w' s => s, hm⟩
       ·
        replace hm := ite_f hc5 hm
        refine WP.exit (then_exit (then_exit (block_here (block_normal (then_normal ?_)))))
        exact ⟨i3, (Sub.cons rfl (Sub.cons rfl (Sub.cons rfl (Sub.cons rfl (Sub.cons rfl (Sub.nil _)))))), fun w' s => s, hm⟩
     ·
      rintro g' S' ⟨i5, hsub3, hS3, hm⟩
      refine WP.sub hsub3 (WP.weaken hS3 ?_)
      replace hm := (congrFun hk2 i5).symm.trans hm
      refine WP.region ?_
      refine wq rfl rfl rfl (ov_add rfl rfl rfl) ?_
      refine wq rfl rfl rfl (ov_move rfl rfl) ?_
      refine WL.nil (then_normal ?_)
      exact ⟨i5, (IntKind.wrap .i64 (i2 + 1)), (Sub.cons rfl (Sub.cons rfl (Sub.cons rfl (Sub.cons rfl (Sub.cons rfl (Sub.nil _)))))), fun w' s => s, hm⟩
    ·
     replace hm := ite_f hc3 hm
     refine WP.exit (then_exit (then_exit (block_here (then_normal ?_))))
     exact ⟨i1, (Sub.cons rfl (Sub.cons rfl (Sub.nil _))), fun w' s => s, hm⟩
  ·
   rintro g' S' ⟨i6, hsub4, hS4, hm⟩
   refine WP.sub hsub4 (WP.weaken hS4 ?_)
   replace hm := (congrFun hk1 i6).symm.trans hm
   refine WP.seq (WP.region ?_)
   refine wq rfl rfl rfl (ov_move rfl rfl) ?_
   refine wq rfl rfl rfl (ov_assign rfl rfl) ?_
   refine wq rfl rfl rfl (ov_assign rfl rfl) ?_
   refine WL.nil (then_normal (WP.ret ?_))
   obtain rfl := Option.some.inj hm
   refine retQ_ret Tryz.results28 (Res.tmp rfl (Res.tmp rfl Res.nil)) rfl (fun w' s => ⟨s.below, ?_⟩)
   exact rfl

theorem sequence_Ends_con (p_s : Sequence) (p_k : Int) (ao1 : Option Addr) (cap1 : Nat) (w : World) (H : Heap) (hH : Le H (hp w)) (h1 : SL H encStep ao1 p_s.steps) (hc1 : p_s.steps.length ≤ cap1) (hG : Glob H) (r : ((List Bool) × Int)) (hm : sequence_Ends p_s p_k = some r) :
  Con Tryz.prog 35 [(.agg #[(.int .i64 p_s.actuators), (.slice ao1 p_s.steps.length cap1)]), (.int .i64 p_k)] w H (fun v H' => ∃ (ao2 : Option Addr) (cap2 : Nat), v = (.tuple #[(.slice ao2 r.1.length cap2), (.int .i64 r.2)]) ∧ SL H' encBool ao2 r.1 ∧ r.1.length ≤ cap2) := by
 unfold sequence_Ends at hm
 refine con_of hH Tryz.func35 rfl 25 Tryz.ntmps35 rfl ?_
 refine WP.seq (WP.region ?_)
 refine WL.step (Runs.free rfl) rfl rfl (os_box (cs := [(.int .i64 p_s.actuators), (.slice ao1 p_s.steps.length cap1)]) rfl rfl rfl (fun b1 => ?_))
 refine WL.step (Runs.free rfl) rfl rfl (os_box (cs := [(.int .i64 p_k)]) rfl rfl rfl (fun b2 => ?_))
 refine WL.step (Runs.free rfl) rfl rfl (os_alloc (cs := [(.slice none 0 0)]) Tryz.zeroValue47 rfl rfl (fun b3 => ?_))
 refine WL.step (Runs.free rfl) rfl rfl (os_alloc (cs := [(.int .i64 0)]) Tryz.zeroValue28 rfl rfl (fun b4 => ?_))
 refine WL.nil (then_normal (WP.seq (WP.seq (WP.region ?_))))
 refine wq rfl rfl rfl (ov_load_whole (i := 3) Tryz.isAgg24 Tryz.sizeOf24 rfl rfl rfl rfl) ?_
 obtain ⟨r1, e1, hm⟩ := bind_some hm
 refine WL.quiet (Runs.free rfl) rfl rfl (oq_con (r := (.int .i64 r1)) Tryz.call30 rfl rfl (fun w' s => ⟨_, (sequence_Check_con p_s ao1 cap1  w' H s.hold h1 hc1 hG r1 e1)⟩)) ?_
 refine wq rfl rfl rfl (ov_assign rfl rfl) ?_
 refine WL.nil (then_normal (WP.seq (WP.region ?_)))
 refine wq rfl rfl rfl (ov_move rfl rfl) ?_
 refine wq rfl rfl rfl (ov_neq rfl rfl rfl) ?_
 refine WL.nil (then_normal ?_)
 refine WP.cond rfl (fun hc3 => ?_) (fun hc3 => ?_)
 ·
  replace hm := ite_t hc3 hm
  refine WP.seq (WP.region ?_)
  refine wq rfl rfl rfl (ov_move rfl rfl) ?_
  refine WL.step0 (Runs.free rfl) rfl (os_store (i := 1) (vs := [(.slice none 0 0)]) (cs' := [(.slice none 0 0)]) Tryz.sizeOf47 rfl rfl rfl rfl rfl rfl rfl rfl rfl ?_)
  refine WL.step0 (Runs.free rfl) rfl (os_store (i := 0) (vs := [(.int .i64 r1)]) (cs' := [(.int .i64 r1)]) Tryz.sizeOf28 rfl rfl rfl rfl rfl rfl rfl rfl rfl ?_)
  refine WL.nil (then_normal (WP.ret (then_ret ?_)))
  obtain rfl := Option.some.inj hm
  refine retQ_ret Tryz.results35 (Res.cell rfl (box_load (i := 1) Tryz.isAgg47 rfl) (Res.cell rfl (box_load (i := 0) Tryz.isAgg28 rfl) Res.nil)) rfl (fun w' s => ⟨s.below, ?_⟩)
  exact ⟨none, 0, rfl, SL.nil _ _ _, Nat.le_refl _⟩
 ·
  replace hm := ite_f hc3 hm
  refine WP.skip (then_normal (WP.seq (WP.seq (WP.region ?_))))
  refine wq rfl rfl rfl (ov_load_whole (i := 3) Tryz.isAgg24 Tryz.sizeOf24 rfl rfl rfl rfl) ?_
  refine WL.step (Runs.free rfl) rfl rfl (os_inline (cap := []) (vs := [(.agg #[(.int .i64 p_s.actuators), (.slice ao1 p_s.steps.length cap1)])]) Tryz.call51 rfl rfl rfl Tryz.func51 rfl 4 Tryz.ntmps51 rfl (fun w' s => ?_))
  refine WP.seq (WP.region ?_)
  refine WL.step (Runs.free rfl) rfl rfl (os_box (cs := [(.int .i64 p_s.actuators), (.slice ao1 p_s.steps.length cap1)]) rfl rfl rfl (fun b5 => ?_))
  refine wq rfl rfl rfl (ov_assign rfl rfl) ?_
  refine WL.nil (then_normal (WP.seq (WP.region ?_)))
  refine wq rfl rfl rfl (ov_makeFunc' (first := []) rfl rfl rfl) ?_
  refine wq rfl rfl rfl (ov_assign rfl rfl) ?_
  refine WL.nil (then_normal (WP.ret ?_))
  refine retQ_ret (v := (.func (.func 82) #[] #[(pB b5 0)])) Tryz.results51 (Res.tmp rfl Res.nil) rfl (fun w' s => ⟨_, ?_, s⟩)
  refine WL.nil (then_normal (WP.block ?_))
  refine WP.range (ps := [16, 17]) (cap := [(pB b5 0)]) Tryz.call82 rfl Tryz.func82 rfl 29 Tryz.ntmps82 rfl (fun l1 D1 R1 hr1 => ?_)
  refine WP.seq (WP.region ?_)
  refine WL.step (Runs.free rfl) rfl rfl (os_alloc (cs := [(.bool false), (.bool false), (.bool false), (.bool false), (.bool false), (.bool false)]) Tryz.zeroValue93 rfl rfl (fun b6 => ?_))
  refine WL.nil (then_normal ?_)
  obtain ⟨k1, hk1, hm⟩ := joinK_some hm
  refine WP.seq_join (fun g' S' => ∃ (c7 : Bool) (c8 : Bool) (c9 : Bool) (c10 : Bool) (c11 : Bool) (c12 : Bool), Sub [(0, (.func (.yield l1) #[] #[])), (1, (pB b5 0)), (3, (pB b6 0)), (1000000007, (.bool false))] g' ∧ (∀ w', S' w' → St w H [.blk b6 93 [(.bool c7), (.bool c8), (.bool c9), (.bool c10), (.bool c11), (.bool c12)], .obj l1 (R1 .ready none), .obj D1 (.deferred (some [])), .blk b5 24 [(.int .i64 p_s.actuators), (.slice ao1 p_s.steps.length cap1)], .blk b4 28 [(.int .i64 0)], .blk b3 47 [(.slice none 0 0)], .blk b2 3 [(.int .i64 p_k)], .blk b1 24 [(.int .i64 p_s.actuators), (.slice ao1 p_s.steps.length cap1)]] H w') ∧ k1 c7 c8 c9 c10 c11 c12 = some r) ?_ ?_
  ·
   skip
   refine WP.seq (WP.region ?_)
   refine wq rfl rfl rfl (ov_fieldAddr Tryz.underlying24 rfl rfl rfl Tryz.sizeOf22 rfl rfl) ?_
   refine wq rfl rfl rfl (ov_load_box (i := 3) Tryz.isAgg22 rfl rfl rfl rfl) ?_
   refine wq rfl rfl rfl (ov_len_slice Tryz.underlying22 rfl rfl) ?_
   refine wq rfl rfl rfl (ov_move rfl rfl) ?_
   refine WL.nil (then_normal (WP.block ?_))
   refine WP.loop (fun m1 g' S' => ∃ (i1 : Int) (c1 : Bool) (c2 : Bool) (c3 : Bool) (c4 : Bool) (c5 : Bool) (c6 : Bool), Sub [(0, (.func (.yield l1) #[] #[])), (1, (pB b5 0)), (3, (pB b6 0)), (7, (.slice ao1 p_s.steps.length cap1)), (8, (.int .i64 (p_s.steps.length : Int))), (9, (.int .i64 i1)), (1000000007, (.bool false))] g' ∧ (∀ w', S' w' → St w H [.blk b6 93 [(.bool c1), (.bool c2), (.bool c3), (.bool c4), (.bool c5), (.bool c6)], .obj l1 (R1 .ready none), .obj D1 (.deferred (some [])), .blk b5 24 [(.int .i64 p_s.actuators), (.slice ao1 p_s.steps.length cap1)], .blk b4 28 [(.int .i64 0)], .blk b3 47 [(.slice none 0 0)], .blk b2 3 [(.int .i64 p_k)], .blk b1 24 [(.int .i64 p_s.actuators), (.slice ao1 p_s.steps.length cap1)]] H w') ∧ sequence_Ends_loop1 p_s p_k k1 m1 i1 c1 c2 c3 c4 c5 c6 = some r) ((Int.toNat ((p_s.steps.length : Int) - 0) + 1)) ⟨0, false, false, false, false, false, false, (Sub.cons rfl (Sub.cons rfl (Sub.cons rfl (Sub.cons rfl (Sub.cons rfl (Sub.cons rfl (Sub.cons rfl (Sub.nil _)))))))), fun w' s => s, hm⟩ ?_ ?_
   ·
    rintro g' S' ⟨_, _, _, _, _, _, _, _, _, hm⟩
    exact none_some hm
   ·
    rintro m1 g' S' ⟨i1, c1, c2, c3, c4, c5, c6, hsub1, hS1, hm⟩
    refine WP.sub hsub1 (WP.weaken hS1 ?_)
    rw [sequence_Ends_loop1] at hm
    refine WP.seq (WP.region ?_)
    refine wq rfl rfl rfl (ov_lss rfl rfl rfl) ?_
    refine WL.nil (then_normal (WP.seq ?_))
    refine WP.cond rfl (fun hc4 => ?_) (fun hc4 => ?_)
    ·
     replace hm := ite_t hc4 hm
     refine WP.skip (then_normal (WP.seq (WP.block (WP.seq (WP.region ?_)))))
     refine wq rfl rfl rfl (ov_move rfl rfl) ?_
     obtain ⟨x1, e2, hm⟩ := bind_some hm
     obtain ⟨h4, h5, h6, cs1, h7, h8⟩ := h1.get e2 (by decide)
     obtain ⟨ao3, cap3, rfl, h3, hc5⟩ := h7
     refine wq rfl rfl rfl (ov_indexAddr Tryz.underlying22 Tryz.sizeOf37 rfl rfl rfl h4 h5 h6) ?_
     refine wq rfl rfl rfl (ov_load_elems (vs := [(.slice ao3 x1.strokes.length cap3), (.int .i64 x1.wait)]) Tryz.isAgg37 Tryz.sizeOf37 rfl rfl rfl h8 h6) ?_
     refine WL.step (Runs.free rfl) rfl rfl (os_alloc (cs := [(.slice none 0 0), (.int .i64 0)]) Tryz.zeroValue37 rfl rfl (fun b7 => ?_))
     refine wq rfl rfl rfl (ov_assign rfl rfl) ?_
     refine WL.step0 (Runs.free rfl) rfl (os_store (i := 0) (vs := [(.slice ao3 x1.strokes.length cap3), (.int .i64 x1.wait)]) (cs' := [(.slice ao3 x1.strokes.length cap3), (.int .i64 x1.wait)]) Tryz.sizeOf37 rfl rfl rfl rfl rfl rfl rfl rfl rfl ?_)
     refine WL.nil (then_normal (WP.seq (WP.seq (WP.region ?_))))
     refine wq rfl rfl rfl (ov_move rfl rfl) ?_
     refine wq rfl rfl rfl (ov_move rfl rfl) ?_
     refine wq rfl rfl rfl (ov_load_whole (i := 1) Tryz.isAgg93 Tryz.sizeOf93 rfl rfl rfl rfl) ?_
     refine WL.yield (i := 2) (vs := [(.int .i64 i1), (.agg #[(.bool c1), (.bool c2), (.bool c3), (.bool c4), (.bool c5), (.bool c6)])]) (Runs.free rfl) rfl rfl rfl rfl rfl hr1 rfl rfl rfl ?_
     refine WP.seq (WP.region ?_)
     refine wq rfl rfl rfl (ov_assign rfl rfl) ?_
     refine WL.nil (then_normal (WP.region ?_))
     refine WL.step (Runs.free rfl) rfl rfl (os_alloc (cs := [(.bool false), (.bool false), (.bool false), (.bool false), (.bool false), (.bool false)]) Tryz.zeroValue93 rfl rfl (fun b8 => ?_))
     refine WL.step0 (Runs.free rfl) rfl (os_store (i := 0) (vs := [(.bool c1), (.bool c2), (.bool c3), (.bool c4), (.bool c5), (.bool c6)]) (cs' := [(.bool c1), (.bool c2), (.bool c3), (.bool c4), (.bool c5), (.bool c6)]) Tryz.sizeOf93 rfl rfl rfl rfl rfl rfl rfl rfl rfl ?_)
     refine WL.nil (then_normal ?_)
     refine begin_of (i := 3) rfl ?_
     refine WP.block (WP.seq (WP.region ?_))
     refine wq rfl rfl rfl (ov_move rfl rfl) ?_
     refine wq rfl rfl rfl (ov_load_box (i := 8) Tryz.isAgg3 rfl rfl rfl rfl) ?_
     refine wq rfl rfl rfl (ov_eql rfl rfl rfl) ?_
     refine WL.nil (then_normal ?_)
     refine WP.cond rfl (fun hc6 => ?_) (fun hc6 => ?_)
     ·
      replace hm := ite_t hc6 hm
      refine WP.seq (WP.region ?_)
      refine wq rfl rfl rfl (ov_fieldAddr Tryz.underlying24 rfl rfl rfl Tryz.sizeOf3 rfl rfl) ?_
      refine wq rfl rfl rfl (ov_load_box (i := 9) Tryz.isAgg3 rfl rfl rfl rfl) ?_
      refine WL.box_held (fun H1 hle1 hc7 => ?_)
      have h9 : SL H1 encBool (some ⟨b8, 0, none⟩) ([c1, c2, c3, c4, c5, c6] : List Bool) := sl_boxB hc7
      replace h1 := h1.mono hle1
      replace h8 := h8.mono hle1
      replace h3 := h3.mono hle1
      replace hG := hG.mono hle1
      obtain ⟨l2, e3, hm⟩ := bind_some hm
      obtain ⟨ao4, cap4, h10, h11, hc8⟩ := sl_arr_h h9 e3
      refine wq rfl rfl rfl (h10 Tryz.underlying93 Tryz.sizeOf4 rfl rfl rfl) ?_
      obtain ⟨l3, e4, hm⟩ := bind_some hm
      refine WL.step (Runs.free rfl) rfl rfl (os_cloneB rfl rfl h11 hc8 e4 (fun ao5 cap5 xs1 rl1 => ?_))
      refine WL.step0 (Runs.free rfl) rfl (os_store (i := 7) (vs := [(.slice ao5 l2.length cap5)]) (cs' := [(.slice ao5 l2.length cap5)]) Tryz.sizeOf47 rfl rfl rfl rfl rfl rfl rfl rfl rfl ?_)
      refine WL.step0 (Runs.free rfl) rfl (os_store (i := 6) (vs := [(.int .i64 0)]) (cs' := [(.int .i64 0)]) Tryz.sizeOf28 rfl rfl rfl rfl rfl rfl rfl rfl rfl ?_)
      refine WL.nil (then_normal (WP.ret (block_ret ?_)))
      refine round_ret (i := 3) rfl ?_
      refine wq rfl rfl rfl (ov_not rfl rfl) ?_
      refine WL.nil (then_normal (WP.cond_true rfl (WP.ret (then_ret (block_ret (then_ret (then_ret (block_ret (then_ret ?_)))))))))
      refine retQ_ret (v := (.tuple #[])) Tryz.results82 Res.nil rfl (fun w' s => ⟨St w H [.obj l1 (R1 .done (some .ret)), .obj D1 (.deferred (some [])), .row 4 (encBool).size l2.length (.slice ao5 l2.length cap5) xs1, .blk b7 37 [(.slice ao3 x1.strokes.length cap3), (.int .i64 x1.wait)], .blk b6 93 [(.bool c1), (.bool c2), (.bool c3), (.bool c4), (.bool c5), (.bool c6)], .blk b5 24 [(.int .i64 p_s.actuators), (.slice ao1 p_s.steps.length cap1)], .blk b4 28 [(.int .i64 0)], .blk b3 47 [(.slice ao5 l2.length cap5)], .blk b2 3 [(.int .i64 p_k)], .blk b1 24 [(.int .i64 p_s.actuators), (.slice ao1 p_s.steps.length cap1)]] H1, ?_, (s.select [3, 4, 0, 1, 2, 5, 6, 7, 8, 9] (by decide) rfl)⟩)
      refine after_ret ?_
      refine block_ret (then_ret ?_)
      obtain rfl := Option.some.inj hm
      refine retQ_retM (i := 0) rfl Tryz.results35 (Res.cell rfl (box_load (i := 5) Tryz.isAgg47 rfl) (Res.cell rfl (box_load (i := 4) Tryz.isAgg28 rfl) Res.nil)) rfl (fun w' s => ⟨s.below, ?_⟩)
      obtain ⟨h12, hc9⟩ := s.ret_row (i := 0) rfl rl1
      exact ⟨ao5, cap5, rfl, h12, hc9⟩
     ·
      replace hm := ite_f hc6 hm
      refine WP.skip (block_normal ?_)
      refine round_normal (i := 3) rfl ?_
      refine wq rfl rfl rfl (ov_not rfl rfl) ?_
      refine WL.nil (then_normal (WP.cond_false rfl (WP.skip (then_normal (WP.region ?_)))))
      refine wq rfl rfl rfl (ov_load_whole (i := 2) Tryz.isAgg93 Tryz.sizeOf93 rfl rfl rfl rfl) ?_
      refine wq rfl rfl rfl (ov_load_whole (i := 1) Tryz.isAgg37 Tryz.sizeOf37 rfl rfl rfl rfl) ?_
      obtain ⟨r2, e5, hm⟩ := bind_some hm
      refine WL.quiet (Runs.free rfl) rfl rfl (oq_con (r := (.agg #[(.bool r2.a0), (.bool r2.a1), (.bool r2.a2), (.bool r2.a3), (.bool r2.a4), (.bool r2.a5)])) Tryz.call60 rfl rfl (fun w' s => ⟨_, (sequence_ends_behind_con (Ends6.mk c1 c2 c3 c4 c5 c6) x1 ao3 cap3  w' H s.hold h3 hc5 hG r2 e5)⟩)) ?_
      refine WL.step0 (Runs.free rfl) rfl (os_store (i := 2) (vs := [(.bool r2.a0), (.bool r2.a1), (.bool r2.a2), (.bool r2.a3), (.bool r2.a4), (.bool r2.a5)]) (cs' := [(.bool r2.a0), (.bool r2.a1), (.bool r2.a2), (.bool r2.a3), (.bool r2.a4), (.bool r2.a5)]) Tryz.sizeOf93 rfl rfl rfl rfl rfl rfl rfl rfl rfl ?_)
      refine WL.nil (block_normal (then_normal (WP.region ?_)))
      refine wq rfl rfl rfl (ov_add rfl rfl rfl) ?_
      refine wq rfl rfl rfl (ov_move rfl rfl) ?_
      refine WL.nil (then_normal ?_)
      exact ⟨(IntKind.wrap .i64 (i1 + 1)), r2.a0, r2.a1, r2.a2, r2.a3, r2.a4, r2.a5, (Sub.cons rfl (Sub.cons rfl (Sub.cons rfl (Sub.cons rfl (Sub.cons rfl (Sub.cons rfl (Sub.cons rfl (Sub.nil _)))))))), fun w' s => (s.select [2, 3, 4, 5, 6, 7, 8, 9] (by decide) rfl), hm⟩
    ·
     replace hm := ite_f hc4 hm
     refine WP.exit (then_exit (then_exit (block_here (then_normal ?_))))
     exact ⟨c1, c2, c3, c4, c5, c6, (Sub.cons rfl (Sub.cons rfl (Sub.cons rfl (Sub.cons rfl (Sub.nil _))))), fun w' s => s, hm⟩
  ·
   rintro g' S' ⟨c7, c8, c9, c10, c11, c12, hsub2, hS2, hm⟩
   refine WP.sub hsub2 (WP.weaken hS2 ?_)
   replace hm := (congrFun (congrFun (congrFun (congrFun (congrFun (congrFun hk1 c7) c8) c9) c10) c11) c12).symm.trans hm
   refine WP.region ?_
   refine wq rfl rfl rfl (ov_move rfl rfl) ?_
   refine wq rfl rfl rfl (ov_fieldAddr Tryz.underlying24 rfl rfl rfl Tryz.sizeOf22 rfl rfl) ?_
   refine wq rfl rfl rfl (ov_load_box (i := 3) Tryz.isAgg22 rfl rfl rfl rfl) ?_
   refine wq rfl rfl rfl (ov_len_slice Tryz.underlying22 rfl rfl) ?_
   refine wq rfl rfl rfl (ov_load_whole (i := 0) Tryz.isAgg93 Tryz.sizeOf93 rfl rfl rfl rfl) ?_
   refine WL.yield (i := 1) (vs := [(.int .i64 (p_s.steps.length : Int)), (.agg #[(.bool c7), (.bool c8), (.bool c9), (.bool c10), (.bool c11), (.bool c12)])]) (Runs.free rfl) rfl rfl rfl rfl rfl hr1 rfl rfl rfl ?_
   refine WP.seq (WP.region ?_)
   refine wq rfl rfl rfl (ov_assign rfl rfl) ?_
   refine WL.nil (then_normal (WP.region ?_))
   refine WL.step (Runs.free rfl) rfl rfl (os_alloc (cs := [(.bool false), (.bool false), (.bool false), (.bool false), (.bool false), (.bool false)]) Tryz.zeroValue93 rfl rfl (fun b9 => ?_))
   refine WL.step0 (Runs.free rfl) rfl (os_store (i := 0) (vs := [(.bool c7), (.bool c8), (.bool c9), (.bool c10), (.bool c11), (.bool c12)]) (cs' := [(.bool c7), (.bool c8), (.bool c9), (.bool c10), (.bool c11), (.bool c12)]) Tryz.sizeOf93 rfl rfl rfl rfl rfl rfl rfl rfl rfl ?_)
   refine WL.nil (then_normal ?_)
   refine begin_of (i := 2) rfl ?_
   refine WP.block (WP.seq (WP.region ?_))
   refine wq rfl rfl rfl (ov_move rfl rfl) ?_
   refine wq rfl rfl rfl (ov_load_box (i := 7) Tryz.isAgg3 rfl rfl rfl rfl) ?_
   refine wq rfl rfl rfl (ov_eql rfl rfl rfl) ?_
   refine WL.nil (then_normal ?_)
   refine WP.cond rfl (fun hc10 => ?_) (fun hc10 => ?_)
   ·
    replace hm := ite_t hc10 hm
    refine WP.seq (WP.region ?_)
    refine wq rfl rfl rfl (ov_fieldAddr Tryz.underlying24 rfl rfl rfl Tryz.sizeOf3 rfl rfl) ?_
    refine wq rfl rfl rfl (ov_load_box (i := 8) Tryz.isAgg3 rfl rfl rfl rfl) ?_
    refine WL.box_held (fun H2 hle2 hc11 => ?_)
    have h13 : SL H2 encBool (some ⟨b9, 0, none⟩) ([c7, c8, c9, c10, c11, c12] : List Bool) := sl_boxB hc11
    replace h1 := h1.mono hle2
    replace hG := hG.mono hle2
    obtain ⟨l4, e6, hm⟩ := bind_some hm
    obtain ⟨ao6, cap6, h14, h15, hc12⟩ := sl_arr_h h13 e6
    refine wq rfl rfl rfl (h14 Tryz.underlying93 Tryz.sizeOf4 rfl rfl rfl) ?_
    obtain ⟨l5, e7, hm⟩ := bind_some hm
    refine WL.step (Runs.free rfl) rfl rfl (os_cloneB rfl rfl h15 hc12 e7 (fun ao7 cap7 xs2 rl2 => ?_))
    refine WL.step0 (Runs.free rfl) rfl (os_store (i := 6) (vs := [(.slice ao7 l4.length cap7)]) (cs' := [(.slice ao7 l4.length cap7)]) Tryz.sizeOf47 rfl rfl rfl rfl rfl rfl rfl rfl rfl ?_)
    refine WL.step0 (Runs.free rfl) rfl (os_store (i := 5) (vs := [(.int .i64 0)]) (cs' := [(.int .i64 0)]) Tryz.sizeOf28 rfl rfl rfl rfl rfl rfl rfl rfl rfl ?_)
    refine WL.nil (then_normal (WP.ret (block_ret ?_)))
    refine round_ret (i := 2) rfl ?_
    refine WL.nil ?_
    refine retQ_end (v := (.tuple #[])) Tryz.results82 Res.nil rfl (fun w' s => ⟨St w H [.obj l1 (R1 .done (some .ret)), .obj D1 (.deferred (some [])), .row 4 (encBool).size l4.length (.slice ao7 l4.length cap7) xs2, .blk b6 93 [(.bool c7), (.bool c8), (.bool c9), (.bool c10), (.bool c11), (.bool c12)], .blk b5 24 [(.int .i64 p_s.actuators), (.slice ao1 p_s.steps.length cap1)], .blk b4 28 [(.int .i64 0)], .blk b3 47 [(.slice ao7 l4.length cap7)], .blk b2 3 [(.int .i64 p_k)], .blk b1 24 [(.int .i64 p_s.actuators), (.slice ao1 p_s.steps.length cap1)]] H2, ?_, (s.select [2, 3, 0, 1, 4, 5, 6, 7, 8] (by decide) rfl)⟩)
    refine after_ret ?_
    refine block_ret (then_ret ?_)
    obtain rfl := Option.some.inj hm
    refine retQ_retM (i := 0) rfl Tryz.results35 (Res.cell rfl (box_load (i := 4) Tryz.isAgg47 rfl) (Res.cell rfl (box_load (i := 3) Tryz.isAgg28 rfl) Res.nil)) rfl (fun w' s => ⟨s.below, ?_⟩)
    obtain ⟨h16, hc13⟩ := s.ret_row (i := 0) rfl rl2
    exact ⟨ao7, cap7, rfl, h16, hc13⟩
   ·
    replace hm := ite_f hc10 hm
    refine WP.skip (block_normal ?_)
    refine round_normal (i := 2) rfl ?_
    refine WL.nil ?_
    refine retQ_end (v := (.tuple #[])) Tryz.results82 Res.nil rfl (fun w' s => ⟨St w H [.obj l1 (R1 .ready none), .obj D1 (.deferred (some [])), .blk b9 93 [(.bool c7), (.bool c8), (.bool c9), (.bool c10), (.bool c11), (.bool c12)], .blk b6 93 [(.bool c7), (.bool c8), (.bool c9), (.bool c10), (.bool c11), (.bool c12)], .blk b5 24 [(.int .i64 p_s.actuators), (.slice ao1 p_s.steps.length cap1)], .blk b4 28 [(.int .i64 0)], .blk b3 47 [(.slice none 0 0)], .blk b2 3 [(.int .i64 p_k)], .blk b1 24 [(.int .i64 p_s.actuators), (.slice ao1 p_s.steps.length cap1)]] H, ?_, (s.select [2, 3, 0, 1, 4, 5, 6, 7, 8] (by decide) rfl)⟩)
    refine after_normal ?_
    refine block_normal (then_normal (WP.seq (WP.region ?_)))
    refine WL.step0 (Runs.free rfl) rfl (os_store (i := 5) (vs := [(.slice none 0 0)]) (cs' := [(.slice none 0 0)]) Tryz.sizeOf47 rfl rfl rfl rfl rfl rfl rfl rfl rfl ?_)
    refine WL.step0 (Runs.free rfl) rfl (os_store (i := 4) (vs := [(.int .i64 2)]) (cs' := [(.int .i64 2)]) Tryz.sizeOf28 rfl rfl rfl rfl rfl rfl rfl rfl rfl ?_)
    refine WL.nil (then_normal (WP.ret ?_))
    obtain rfl := Option.some.inj hm
    refine retQ_retM (i := 0) rfl Tryz.results35 (Res.cell rfl (box_load (i := 4) Tryz.isAgg47 rfl) (Res.cell rfl (box_load (i := 3) Tryz.isAgg28 rfl) Res.nil)) rfl (fun w' s => ⟨s.below, ?_⟩)
    exact ⟨none, 0, rfl, SL.nil _ _ _, Nat.le_refl _⟩

theorem slices_Equal_intint_con (p_s1 : (List Int)) (p_s2 : (List Int)) (ao1 : Option Addr) (cap1 : Nat) (ao2 : Option Addr) (cap2 : Nat) (w : World) (H : Heap) (hH : Le H (hp w)) (h1 : SL H (encInt .i64) ao1 p_s1) (hc1 : p_s1.length ≤ cap1) (h2 : SL H (encInt .i64) ao2 p_s2) (hc2 : p_s2.length ≤ cap2) (hG : Glob H) (r : Bool) (hm : slices_Equal_intint p_s1 p_s2 = some r) :
  Con Tryz.prog 40 [(.slice ao1 p_s1.length cap1), (.slice ao2 p_s2.length cap2)] w H (fun v _ => v = (.bool r)) := by
 unfold slices_Equal_intint at hm
 refine con_of hH Tryz.func40 rfl 26 Tryz.ntmps40 rfl ?_
 refine WP.seq (WP.region ?_)
 refine wq rfl rfl rfl (ov_assign rfl rfl) ?_
 refine WL.nil (then_normal (WP.seq (WP.seq (WP.region ?_))))
 refine wq rfl rfl rfl (ov_move rfl rfl) ?_
 refine wq rfl rfl rfl (ov_len_slice Tryz.underlying42 rfl rfl) ?_
 refine wq rfl rfl rfl (ov_move rfl rfl) ?_
 refine wq rfl rfl rfl (ov_len_slice Tryz.underlying42 rfl rfl) ?_
 refine wq rfl rfl rfl (ov_neq rfl rfl rfl) ?_
 refine WL.nil (then_normal ?_)
 refine WP.cond rfl (fun hc3 => ?_) (fun hc3 => ?_)
 ·
  replace hm := ite_t hc3 hm
  refine WP.seq (WP.region ?_)
  refine wq rfl rfl rfl (ov_assign rfl rfl) ?_
  refine WL.nil (then_normal (WP.ret (then_ret ?_)))
  obtain rfl := Option.some.inj hm
  refine retQ_ret Tryz.results40 (Res.tmp rfl Res.nil) rfl (fun w' s => ⟨s.below, ?_⟩)
  exact rfl
 ·
  replace hm := ite_f hc3 hm
  refine WP.skip (then_normal ?_)
  obtain ⟨k1, hk1, hm⟩ := joinK_some hm
  refine WP.seq_join (fun g' S' => Sub [(1000000007, (.bool false))] g' ∧ (∀ w', S' w' → St w H [] H w') ∧ k1 = some r) ?_ ?_
  ·
   skip
   refine WP.seq (WP.region ?_)
   refine wq rfl rfl rfl (ov_move rfl rfl) ?_
   refine wq rfl rfl rfl (ov_len_slice Tryz.underlying42 rfl rfl) ?_
   refine wq rfl rfl rfl (ov_move rfl rfl) ?_
   refine WL.nil (then_normal (WP.block ?_))
   refine WP.loop (fun m1 g' S' => ∃ (i1 : Int), Sub [(0, (.slice ao1 p_s1.length cap1)), (1, (.slice ao2 p_s2.length cap2)), (12, (.int .i64 (p_s1.length : Int))), (13, (.int .i64 i1)), (1000000007, (.bool false))] g' ∧ (∀ w', S' w' → St w H [] H w') ∧ slices_Equal_intint_loop1 p_s1 p_s2 k1 m1 i1 = some r) ((Int.toNat ((p_s1.length : Int) - 0) + 1)) ⟨0, (Sub.cons rfl (Sub.cons rfl (Sub.cons rfl (Sub.cons rfl (Sub.cons rfl (Sub.nil _)))))), fun w' s => s, hm⟩ ?_ ?_
   ·
    rintro g' S' ⟨_, _, _, hm⟩
    exact none_some hm
   ·
    rintro m1 g' S' ⟨i1, hsub1, hS1, hm⟩
    refine WP.sub hsub1 (WP.weaken hS1 ?_)
    rw [slices_Equal_intint_loop1] at hm
    refine WP.seq (WP.region ?_)
    refine wq rfl rfl rfl (ov_lss rfl rfl rfl) ?_
    refine WL.nil (then_normal (WP.seq ?_))
    refine WP.cond rfl (fun hc4 => ?_) (fun hc4 => ?_)
    ·
     replace hm := ite_t hc4 hm
     refine WP.skip (then_normal (WP.seq (WP.block (WP.seq (WP.region ?_)))))
     refine wq rfl rfl rfl (ov_move rfl rfl) ?_
     refine wq rfl rfl rfl (ov_assign rfl rfl) ?_
     refine WL.nil (then_normal (WP.seq ?_))
     refine WP.region_draws (by kernel_rfl) (by kernel_rfl) (fun _ s => s.drew) ?_
     refine QL.quiet (Runs.free rfl) rfl rfl (OV.quiet (ov_move rfl rfl)) ?_
     refine QL.quiet (Runs.free rfl) rfl rfl (OV.quiet (ov_move rfl rfl)) ?_
     obtain ⟨x1, e1, hm⟩ := bind_some hm
     obtain ⟨h3, h4, h5, cs1, h6, h7⟩ := h1.get e1 (by decide)
     obtain rfl : cs1 = [(.int .i64 x1)] := h6
     refine QL.quiet (Runs.free rfl) rfl rfl (OV.quiet (ov_indexAddr Tryz.underlying42 Tryz.sizeOf3 rfl rfl rfl h3 h4 h5)) ?_
     refine QL.quiet (Runs.free rfl) rfl rfl (OV.quiet (ov_load_elem (v := (.int .i64 x1)) Tryz.isAgg3 rfl rfl h7)) ?_
     refine QL.quiet (Runs.free rfl) rfl rfl (OV.quiet (ov_move rfl rfl)) ?_
     refine QL.quiet (Runs.free rfl) rfl rfl (OV.quiet (ov_move rfl rfl)) ?_
     obtain ⟨x2, e2, hm⟩ := bind_some hm
     obtain ⟨h8, h9, h10, cs2, h11, h12⟩ := h2.get e2 (by decide)
     obtain rfl : cs2 = [(.int .i64 x2)] := h11
     refine QL.quiet (Runs.free rfl) rfl rfl (OV.quiet (ov_indexAddr Tryz.underlying42 Tryz.sizeOf3 rfl rfl rfl h8 h9 h10)) ?_
     refine QL.quiet (Runs.free rfl) rfl rfl (OV.quiet (ov_load_elem (v := (.int .i64 x2)) Tryz.isAgg3 rfl rfl h12)) ?_
     refine QL.quiet (Runs.free rfl) rfl rfl (OV.quiet (ov_neq rfl rfl rfl)) ?_
     refine QL.nil ?_
     refine then_normal ?_
     refine WP.cond rfl (fun hc5 => ?_) (fun hc5 => ?_)
     ·
      replace hm := ite_t hc5 hm
      refine WP.seq (WP.region ?_)
      refine wq rfl rfl rfl (ov_assign rfl rfl) ?_
      refine WL.nil (then_normal (WP.ret (block_ret (then_ret (then_ret (block_ret (then_ret ?_)))))))
      obtain rfl := Option.some.inj hm
      refine retQ_ret Tryz.results40 (Res.tmp rfl Res.nil) rfl (fun w' s => ⟨s.below, ?_⟩)
      exact rfl
     ·
      replace hm := ite_f hc5 hm
      refine WP.skip (block_normal (then_normal (WP.region ?_)))
      refine wq rfl rfl rfl (ov_add rfl rfl rfl) ?_
      refine wq rfl rfl rfl (ov_move rfl rfl) ?_
      refine WL.nil (then_normal ?_)
      exact ⟨(IntKind.wrap .i64 (i1 + 1)), (Sub.cons rfl (Sub.cons rfl (Sub.cons rfl (Sub.cons rfl (Sub.cons rfl (Sub.nil _)))))), fun w' s => s, hm⟩
    ·
     replace hm := ite_f hc4 hm
     refine WP.exit (then_exit (then_exit (block_here (then_normal ?_))))
     exact ⟨(Sub.cons rfl (Sub.nil _)), fun w' s => s, hm⟩
  ·
   rintro g' S' ⟨hsub2, hS2, hm⟩
   refine WP.sub hsub2 (WP.weaken hS2 ?_)
   replace hm := hk1.symm.trans hm
   refine WP.seq (WP.region ?_)
   refine wq rfl rfl rfl (ov_assign rfl rfl) ?_
   refine WL.nil (then_normal (WP.ret ?_))
   obtain rfl := Option.some.inj hm
   refine retQ_ret Tryz.results40 (Res.tmp rfl Res.nil) rfl (fun w' s => ⟨s.below, ?_⟩)
   exact rfl

theorem sequence_Parse_con (p_text : (List UInt8)) (w : World) (H : Heap) (hH : Le H (hp w)) (hG : Glob H) (r : (Sequence × Int × Int)) (hm : sequence_Parse p_text = some r) :
  Con Tryz.prog 47 [(mkS p_text)] w H (fun v H' => ∃ (ao1 : Option Addr) (cap1 : Nat), v = (.tuple #[(.agg #[(.int .i64 r.1.actuators), (.slice ao1 r.1.steps.length cap1)]), (.int .i64 r.2.1), (.int .i64 r.2.2)]) ∧ SL H' encStep ao1 r.1.steps ∧ r.1.steps.length ≤ cap1) := by
 unfold sequence_Parse at hm
 refine con_of hH Tryz.func47 rfl 60 Tryz.ntmps47 rfl ?_
 refine WP.seq (WP.region ?_)
 refine WL.step (Runs.free rfl) rfl rfl (os_alloc (cs := [(.int .i64 0), (.slice none 0 0)]) Tryz.zeroValue24 rfl rfl (fun b1 => ?_))
 refine wq rfl rfl rfl (ov_assign rfl rfl) ?_
 refine wq rfl rfl rfl (ov_assign rfl rfl) ?_
 refine WL.nil (then_normal (WP.seq (WP.region ?_)))
 refine wq rfl rfl rfl (ov_move rfl rfl) ?_
 obtain ⟨r1, e1, hm⟩ := bind_some hm
 refine WL.step (Runs.free rfl) rfl rfl (os_con Tryz.call77 rfl rfl (fun w' s => (stroke_Parse_con p_text  w' H s.hold hG r1 e1)) (fun rr1 H1 hle1 hR1 => ?_))
 replace hG := hG.mono hle1
 obtain ⟨ao2, cap2, rfl, h2, hc2⟩ := hR1
 refine wq rfl rfl rfl (ov_move rfl rfl) ?_
 refine wq rfl rfl rfl (ov_extract rfl rfl rfl) ?_
 refine wq rfl rfl rfl (ov_extract rfl rfl rfl) ?_
 refine wq rfl rfl rfl (ov_extract rfl rfl rfl) ?_
 refine wq rfl rfl rfl (ov_assign rfl rfl) ?_
 refine wq rfl rfl rfl (ov_assign rfl rfl) ?_
 refine wq rfl rfl rfl (ov_assign rfl rfl) ?_
 refine WL.nil (then_normal (WP.seq (WP.seq (WP.region ?_))))
 refine wq rfl rfl rfl (ov_move rfl rfl) ?_
 refine wq rfl rfl rfl (ov_neq rfl rfl rfl) ?_
 refine WL.nil (then_normal ?_)
 refine WP.cond rfl (fun hc3 => ?_) (fun hc3 => ?_)
 ·
  replace hm := ite_t hc3 hm
  refine WP.seq (WP.region ?_)
  refine wq rfl rfl rfl (ov_build (r := (.agg #[(.int .i64 0), (.slice none 0 0)])) rfl rfl (fun _ => by kernel_rfl)) ?_
  refine wq rfl rfl rfl (ov_move rfl rfl) ?_
  refine wq rfl rfl rfl (ov_move rfl rfl) ?_
  refine WL.step0 (Runs.free rfl) rfl (os_store (i := 0) (vs := [(.int .i64 0), (.slice none 0 0)]) (cs' := [(.int .i64 0), (.slice none 0 0)]) Tryz.sizeOf24 rfl rfl rfl rfl rfl rfl rfl rfl rfl ?_)
  refine wq rfl rfl rfl (ov_assign rfl rfl) ?_
  refine wq rfl rfl rfl (ov_assign rfl rfl) ?_
  refine WL.nil (then_normal (WP.ret (then_ret ?_)))
  obtain rfl := Option.some.inj hm
  refine retQ_ret Tryz.results47 (Res.cell rfl (box_loads (i := 0) Tryz.isAgg24 Tryz.sizeOf24 rfl rfl) (Res.tmp rfl (Res.tmp rfl Res.nil))) rfl (fun w' s => ⟨s.below, ?_⟩)
  exact ⟨none, 0, rfl, SL.nil _ _ _, Nat.le_refl _⟩
 ·
  replace hm := ite_f hc3 hm
  refine WP.skip (then_normal (WP.seq (WP.seq (WP.region ?_))))
  refine wq rfl rfl rfl (ov_move rfl rfl) ?_
  refine wq rfl rfl rfl (ov_len_slice Tryz.underlying22 rfl rfl) ?_
  refine wq rfl rfl rfl (ov_eql rfl rfl rfl) ?_
  refine WL.nil (then_normal ?_)
  refine WP.cond rfl (fun hc4 => ?_) (fun hc4 => ?_)
  ·
   replace hm := ite_t hc4 hm
   refine WP.seq (WP.region ?_)
   refine wq rfl rfl rfl (ov_build (r := (.agg #[(.int .i64 0), (.slice none 0 0)])) rfl rfl (fun _ => by kernel_rfl)) ?_
   refine WL.step0 (Runs.free rfl) rfl (os_store (i := 0) (vs := [(.int .i64 0), (.slice none 0 0)]) (cs' := [(.int .i64 0), (.slice none 0 0)]) Tryz.sizeOf24 rfl rfl rfl rfl rfl rfl rfl rfl rfl ?_)
   refine wq rfl rfl rfl (ov_assign rfl rfl) ?_
   refine wq rfl rfl rfl (ov_assign rfl rfl) ?_
   refine WL.nil (then_normal (WP.ret (then_ret ?_)))
   obtain rfl := Option.some.inj hm
   refine retQ_ret Tryz.results47 (Res.cell rfl (box_loads (i := 0) Tryz.isAgg24 Tryz.sizeOf24 rfl rfl) (Res.tmp rfl (Res.tmp rfl Res.nil))) rfl (fun w' s => ⟨s.below, ?_⟩)
   exact ⟨none, 0, rfl, SL.nil _ _ _, Nat.le_refl _⟩
  ·
   replace hm := ite_f hc4 hm
   refine WP.skip (then_normal (WP.seq (WP.region ?_)))
   refine wq rfl rfl rfl (ov_move rfl rfl) ?_
   refine wq rfl rfl rfl (ov_build (r := (.agg #[(.int .i64 0), (.slice ao2 r1.1.length cap2)])) rfl rfl (fun _ => by kernel_rfl)) ?_
   refine WL.step (Runs.free rfl) rfl rfl (os_alloc (cs := [(.int .i64 0), (.slice none 0 0)]) Tryz.zeroValue24 rfl rfl (fun b2 => ?_))
   refine WL.step0 (Runs.free rfl) rfl (os_store (i := 0) (vs := [(.int .i64 0), (.slice ao2 r1.1.length cap2)]) (cs' := [(.int .i64 0), (.slice ao2 r1.1.length cap2)]) Tryz.sizeOf24 rfl rfl rfl rfl rfl rfl rfl rfl rfl ?_)
   refine WL.nil (then_normal ?_)
   obtain ⟨k1, hk1, hm⟩ := joinK_some hm
   refine WP.seq_join (fun g' S' => ∃ (i6 : Int), Sub [(2, (pB b1 0)), (8, (pB b2 0)), (1000000007, (.bool false))] g' ∧ (∀ w', S' w' → St w H [.blk b2 24 [(.int .i64 i6), (.slice ao2 r1.1.length cap2)], .blk b1 24 [(.int .i64 0), (.slice none 0 0)]] H1 w') ∧ k1 i6 = some r) ?_ ?_
   ·
    skip
    refine WP.seq (WP.region ?_)
    refine wq rfl rfl rfl (ov_move rfl rfl) ?_
    refine wq rfl rfl rfl (ov_len_slice Tryz.underlying22 rfl rfl) ?_
    refine wq rfl rfl rfl (ov_move rfl rfl) ?_
    refine WL.nil (then_normal (WP.block ?_))
    refine WP.loop (fun m1 g' S' => ∃ (i1 : Int) (i2 : Int), Sub [(2, (pB b1 0)), (8, (pB b2 0)), (31, (.slice ao2 r1.1.length cap2)), (32, (.int .i64 (r1.1.length : Int))), (33, (.int .i64 i1)), (1000000007, (.bool false))] g' ∧ (∀ w', S' w' → St w H [.blk b2 24 [(.int .i64 i2), (.slice ao2 r1.1.length cap2)], .blk b1 24 [(.int .i64 0), (.slice none 0 0)]] H1 w') ∧ sequence_Parse_loop1 r1 k1 m1 i1 i2 = some r) ((Int.toNat ((r1.1.length : Int) - 0) + 1)) ⟨0, 0, (Sub.cons rfl (Sub.cons rfl (Sub.cons rfl (Sub.cons rfl (Sub.cons rfl (Sub.cons rfl (Sub.nil _))))))), fun w' s => s, hm⟩ ?_ ?_
    ·
     rintro g' S' ⟨_, _, _, _, hm⟩
     exact none_some hm
    ·
     rintro m1 g' S' ⟨i1, i2, hsub1, hS1, hm⟩
     refine WP.sub hsub1 (WP.weaken hS1 ?_)
     rw [sequence_Parse_loop1] at hm
     refine WP.seq (WP.region ?_)
     refine wq rfl rfl rfl (ov_lss rfl rfl rfl) ?_
     refine WL.nil (then_normal (WP.seq ?_))
     refine WP.cond rfl (fun hc5 => ?_) (fun hc5 => ?_)
     ·
      replace hm := ite_t hc5 hm
      refine WP.skip (then_normal ?_)
      obtain ⟨k2, hk2, hm⟩ := joinK_some hm
      refine WP.seq_join (fun g' S' => ∃ (i5 : Int), Sub [(2, (pB b1 0)), (8, (pB b2 0)), (31, (.slice ao2 r1.1.length cap2)), (32, (.int .i64 (r1.1.length : Int))), (33, (.int .i64 i1)), (1000000007, (.bool false))] g' ∧ (∀ w', S' w' → St w H [.blk b2 24 [(.int .i64 i5), (.slice ao2 r1.1.length cap2)], .blk b1 24 [(.int .i64 0), (.slice none 0 0)]] H1 w') ∧ k2 i5 = some r) ?_ ?_
      ·
       skip
       refine WP.block (WP.seq (WP.region ?_))
       obtain ⟨x1, e2, hm⟩ := bind_some hm
       obtain ⟨h4, h5, h6, cs1, h7, h8⟩ := h2.get e2 (by decide)
       obtain ⟨ao3, cap3, rfl, h3, hc6⟩ := h7
       refine wq rfl rfl rfl (ov_indexAddr Tryz.underlying22 Tryz.sizeOf37 rfl rfl rfl h4 h5 h6) ?_
       refine wq rfl rfl rfl (ov_load_elems (vs := [(.slice ao3 x1.strokes.length cap3), (.int .i64 x1.wait)]) Tryz.isAgg37 Tryz.sizeOf37 rfl rfl rfl h8 h6) ?_
       refine WL.step (Runs.free rfl) rfl rfl (os_alloc (cs := [(.slice none 0 0), (.int .i64 0)]) Tryz.zeroValue37 rfl rfl (fun b3 => ?_))
       refine WL.step0 (Runs.free rfl) rfl (os_store (i := 0) (vs := [(.slice ao3 x1.strokes.length cap3), (.int .i64 x1.wait)]) (cs' := [(.slice ao3 x1.strokes.length cap3), (.int .i64 x1.wait)]) Tryz.sizeOf37 rfl rfl rfl rfl rfl rfl rfl rfl rfl ?_)
       refine WL.nil (then_normal (WP.seq (WP.region ?_)))
       refine wq rfl rfl rfl (ov_fieldAddr Tryz.underlying37 rfl rfl rfl Tryz.sizeOf25 rfl rfl) ?_
       refine wq rfl rfl rfl (ov_load_box (i := 0) Tryz.isAgg25 rfl rfl rfl rfl) ?_
       refine wq rfl rfl rfl (ov_len_slice Tryz.underlying25 rfl rfl) ?_
       refine wq rfl rfl rfl (ov_move rfl rfl) ?_
       refine WL.nil (then_normal (WP.block ?_))
       refine WP.loop (fun m2 g' S' => ∃ (i3 : Int) (i4 : Int), Sub [(2, (pB b1 0)), (8, (pB b2 0)), (31, (.slice ao2 r1.1.length cap2)), (32, (.int .i64 (r1.1.length : Int))), (33, (.int .i64 i1)), (38, (.slice ao3 x1.strokes.length cap3)), (39, (.int .i64 (x1.strokes.length : Int))), (40, (.int .i64 i3)), (1000000007, (.bool false))] g' ∧ (∀ w', S' w' → St w H [.blk b2 24 [(.int .i64 i4), (.slice ao2 r1.1.length cap2)], .blk b1 24 [(.int .i64 0), (.slice none 0 0)]] H1 w') ∧ sequence_Parse_loop2 k2 x1 m2 i3 i4 = some r) ((Int.toNat ((x1.strokes.length : Int) - 0) + 1)) ⟨0, i2, (Sub.cons rfl (Sub.cons rfl (Sub.cons rfl (Sub.cons rfl (Sub.cons rfl (Sub.cons rfl (Sub.cons rfl (Sub.cons rfl (Sub.cons rfl (Sub.nil _)))))))))), fun w' s => (s.select [1, 2] (by decide) rfl), hm⟩ ?_ ?_
       ·
        rintro g' S' ⟨_, _, _, _, hm⟩
        exact none_some hm
       ·
        rintro m2 g' S' ⟨i3, i4, hsub2, hS2, hm⟩
        refine WP.sub hsub2 (WP.weaken hS2 ?_)
        rw [sequence_Parse_loop2] at hm
        refine WP.seq (WP.region ?_)
        refine wq rfl rfl rfl (ov_lss rfl rfl rfl) ?_
        refine WL.nil (then_normal (WP.seq ?_))
        refine WP.cond rfl (fun hc7 => ?_) (fun hc7 => ?_)
        ·
         replace hm := ite_t hc7 hm
         refine WP.skip (then_normal (WP.seq (WP.block (WP.seq (WP.region ?_)))))
         obtain ⟨x2, e3, hm⟩ := bind_some hm
         obtain ⟨h9, h10, h11, cs2, h12, h13⟩ := h3.get e3 (by decide)
         obtain rfl : cs2 = [(.int .i64 x2.actuator), (.bool x2.out)] := h12
         refine wq rfl rfl rfl (ov_indexAddr Tryz.underlying25 Tryz.sizeOf40 rfl rfl rfl h9 h10 h11) ?_
         refine wq rfl rfl rfl (ov_load_elems (vs := [(.int .i64 x2.actuator), (.bool x2.out)]) Tryz.isAgg40 Tryz.sizeOf40 rfl rfl rfl h13 h11) ?_
         refine WL.step (Runs.free rfl) rfl rfl (os_alloc (cs := [(.int .i64 0), (.bool false)]) Tryz.zeroValue40 rfl rfl (fun b4 => ?_))
         refine WL.step0 (Runs.free rfl) rfl (os_store (i := 0) (vs := [(.int .i64 x2.actuator), (.bool x2.out)]) (cs' := [(.int .i64 x2.actuator), (.bool x2.out)]) Tryz.sizeOf40 rfl rfl rfl rfl rfl rfl rfl rfl rfl ?_)
         refine WL.nil (then_normal (WP.region ?_))
         refine wq rfl rfl rfl (ov_fieldAddr Tryz.underlying24 rfl rfl rfl Tryz.sizeOf3 rfl rfl) ?_
         refine wq rfl rfl rfl (ov_load_box (i := 1) Tryz.isAgg3 rfl rfl rfl rfl) ?_
         refine wq rfl rfl rfl (ov_fieldAddr Tryz.underlying40 rfl rfl rfl Tryz.sizeOf3 rfl rfl) ?_
         refine wq rfl rfl rfl (ov_load_box (i := 0) Tryz.isAgg3 rfl rfl rfl rfl) ?_
         refine wq rfl rfl rfl (ov_add rfl rfl rfl) ?_
         refine wq rfl rfl rfl (ov_max rfl rfl rfl) ?_
         refine wq rfl rfl rfl (ov_fieldAddr Tryz.underlying24 rfl rfl rfl Tryz.sizeOf3 rfl rfl) ?_
         refine WL.step0 (Runs.free rfl) rfl (os_store (i := 1) (vs := [(.int .i64 (if (IntKind.wrap .i64 (x2.actuator + 1)) > i4 then (IntKind.wrap .i64 (x2.actuator + 1)) else i4))]) (cs' := [(.int .i64 (if (IntKind.wrap .i64 (x2.actuator + 1)) > i4 then (IntKind.wrap .i64 (x2.actuator + 1)) else i4)), (.slice ao2 r1.1.length cap2)]) Tryz.sizeOf3 rfl rfl rfl rfl rfl rfl rfl rfl rfl ?_)
         refine WL.nil (block_normal (then_normal (WP.region ?_)))
         refine wq rfl rfl rfl (ov_add rfl rfl rfl) ?_
         refine wq rfl rfl rfl (ov_move rfl rfl) ?_
         refine WL.nil (then_normal ?_)
         exact ⟨(IntKind.wrap .i64 (i3 + 1)), (if (IntKind.wrap .i64 (x2.actuator + 1)) > i4 then (IntKind.wrap .i64 (x2.actuator + 1)) else i4), (Sub.cons rfl (Sub.cons rfl (Sub.cons rfl (Sub.cons rfl (Sub.cons rfl (Sub.cons rfl (Sub.cons rfl (Sub.cons rfl (Sub.cons rfl (Sub.nil _)))))))))), fun w' s => (s.select [1, 2] (by decide) rfl), hm⟩
        ·
         replace hm := ite_f hc7 hm
         refine WP.exit (then_exit (then_exit (block_here (block_normal (then_normal ?_)))))
         exact ⟨i4, (Sub.cons rfl (Sub.cons rfl (Sub.cons rfl (Sub.cons rfl (Sub.cons rfl (Sub.cons rfl (Sub.nil _))))))), fun w' s => s, hm⟩
      ·
       rintro g' S' ⟨i5, hsub3, hS3, hm⟩
       refine WP.sub hsub3 (WP.weaken hS3 ?_)
       replace hm := (congrFun hk2 i5).symm.trans hm
       refine WP.region ?_
       refine wq rfl rfl rfl (ov_add rfl rfl rfl) ?_
       refine wq rfl rfl rfl (ov_move rfl rfl) ?_
       refine WL.nil (then_normal ?_)
       exact ⟨(IntKind.wrap .i64 (i1 + 1)), i5, (Sub.cons rfl (Sub.cons rfl (Sub.cons rfl (Sub.cons rfl (Sub.cons rfl (Sub.cons rfl (Sub.nil _))))))), fun w' s => s, hm⟩
     ·
      replace hm := ite_f hc5 hm
      refine WP.exit (then_exit (then_exit (block_here (then_normal ?_))))
      exact ⟨i2, (Sub.cons rfl (Sub.cons rfl (Sub.cons rfl (Sub.nil _)))), fun w' s => s, hm⟩
   ·
    rintro g' S' ⟨i6, hsub4, hS4, hm⟩
    refine WP.sub hsub4 (WP.weaken hS4 ?_)
    replace hm := (congrFun hk1 i6).symm.trans hm
    refine WP.seq (WP.seq (WP.region ?_))
    refine wq rfl rfl rfl (ov_load_whole (i := 0) Tryz.isAgg24 Tryz.sizeOf24 rfl rfl rfl rfl) ?_
    obtain ⟨r2, e4, hm⟩ := bind_some hm
    refine WL.quiet (Runs.free rfl) rfl rfl (oq_con (r := (.int .i64 r2)) Tryz.call30 rfl rfl (fun w' s => ⟨_, (sequence_Check_con (Sequence.mk i6 r1.1) ao2 cap2  w' H1 s.hold h2 hc2 hG r2 e4)⟩)) ?_
    refine wq rfl rfl rfl (ov_assign rfl rfl) ?_
    refine WL.nil (then_normal (WP.seq (WP.region ?_)))
    refine wq rfl rfl rfl (ov_move rfl rfl) ?_
    refine wq rfl rfl rfl (ov_neq rfl rfl rfl) ?_
    refine WL.nil (then_normal ?_)
    refine WP.cond rfl (fun hc8 => ?_) (fun hc8 => ?_)
    ·
     replace hm := ite_t hc8 hm
     refine WP.seq (WP.region ?_)
     refine wq rfl rfl rfl (ov_build (r := (.agg #[(.int .i64 0), (.slice none 0 0)])) rfl rfl (fun _ => by kernel_rfl)) ?_
     refine wq rfl rfl rfl (ov_move rfl rfl) ?_
     refine WL.step0 (Runs.free rfl) rfl (os_store (i := 1) (vs := [(.int .i64 0), (.slice none 0 0)]) (cs' := [(.int .i64 0), (.slice none 0 0)]) Tryz.sizeOf24 rfl rfl rfl rfl rfl rfl rfl rfl rfl ?_)
     refine wq rfl rfl rfl (ov_assign rfl rfl) ?_
     refine wq rfl rfl rfl (ov_assign rfl rfl) ?_
     refine WL.nil (then_normal (WP.ret (then_ret ?_)))
     obtain rfl := Option.some.inj hm
     refine retQ_ret Tryz.results47 (Res.cell rfl (box_loads (i := 1) Tryz.isAgg24 Tryz.sizeOf24 rfl rfl) (Res.tmp rfl (Res.tmp rfl Res.nil))) rfl (fun w' s => ⟨s.below, ?_⟩)
     exact ⟨none, 0, rfl, SL.nil _ _ _, Nat.le_refl _⟩
    ·
     replace hm := ite_f hc8 hm
     refine WP.skip (then_normal (WP.seq (WP.region ?_)))
     refine wq rfl rfl rfl (ov_load_whole (i := 0) Tryz.isAgg24 Tryz.sizeOf24 rfl rfl rfl rfl) ?_
     refine WL.step0 (Runs.free rfl) rfl (os_store (i := 1) (vs := [(.int .i64 i6), (.slice ao2 r1.1.length cap2)]) (cs' := [(.int .i64 i6), (.slice ao2 r1.1.length cap2)]) Tryz.sizeOf24 rfl rfl rfl rfl rfl rfl rfl rfl rfl ?_)
     refine wq rfl rfl rfl (ov_assign rfl rfl) ?_
     refine wq rfl rfl rfl (ov_assign rfl rfl) ?_
     refine WL.nil (then_normal (WP.ret ?_))
     obtain rfl := Option.some.inj hm
     refine retQ_ret Tryz.results47 (Res.cell rfl (box_loads (i := 1) Tryz.isAgg24 Tryz.sizeOf24 rfl rfl) (Res.tmp rfl (Res.tmp rfl Res.nil))) rfl (fun w' s => ⟨s.below, ?_⟩)
     exact ⟨ao2, cap2, rfl, h2.mono s.le_newer, hc2⟩

theorem law14_awake_con  (w : World) (H : Heap) (hH : Le H (hp w)) (hG : Glob H) (r : Bool) (hm : law14_awake  = some r) :
  Con Tryz.prog 12 [] w H (fun v _ => v = (.bool r)) := by
 unfold law14_awake at hm
 refine con_of hH Tryz.func12 rfl 108 Tryz.ntmps12 rfl ?_
 refine WP.seq (WP.region ?_)
 refine wq rfl rfl rfl (ov_assign rfl rfl) ?_
 refine WL.nil (then_normal (WP.seq (WP.region ?_)))
 obtain ⟨r1, e1, hm⟩ := bind_some hm
 refine WL.step (Runs.free rfl) rfl rfl (os_con Tryz.call47 rfl rfl (fun w' s => (sequence_Parse_con [65, 43, 59, 32, 66, 43, 59, 32, 66, 45, 59, 32, 65, 45]  w' H s.hold hG r1 e1)) (fun rr1 H1 hle1 hR1 => ?_))
 replace hG := hG.mono hle1
 obtain ⟨ao1, cap1, rfl, h1, hc1⟩ := hR1
 refine wq rfl rfl rfl (ov_move rfl rfl) ?_
 refine wq rfl rfl rfl (ov_extract rfl rfl rfl) ?_
 refine wq rfl rfl rfl (ov_extract rfl rfl rfl) ?_
 refine wq rfl rfl rfl (ov_extract rfl rfl rfl) ?_
 refine WL.step (Runs.free rfl) rfl rfl (os_alloc (cs := [(.int .i64 0), (.slice none 0 0)]) Tryz.zeroValue24 rfl rfl (fun b1 => ?_))
 refine WL.step0 (Runs.free rfl) rfl (os_store (i := 0) (vs := [(.int .i64 r1.1.actuators), (.slice ao1 r1.1.steps.length cap1)]) (cs' := [(.int .i64 r1.1.actuators), (.slice ao1 r1.1.steps.length cap1)]) Tryz.sizeOf24 rfl rfl rfl rfl rfl rfl rfl rfl rfl ?_)
 refine wq rfl rfl rfl (ov_assign rfl rfl) ?_
 refine wq rfl rfl rfl (ov_assign rfl rfl) ?_
 refine WL.nil (then_normal (WP.seq (WP.region ?_)))
 refine wq rfl rfl rfl (ov_load_whole (i := 0) Tryz.isAgg24 Tryz.sizeOf24 rfl rfl rfl rfl) ?_
 obtain ⟨r2, e2, hm⟩ := bind_some hm
 refine WL.step (Runs.free rfl) rfl rfl (os_con Tryz.call35 rfl rfl (fun w' s => (sequence_Ends_con r1.1 2 ao1 cap1  w' H1 s.hold h1 hc1 hG r2 e2)) (fun rr2 H2 hle2 hR2 => ?_))
 replace h1 := h1.mono hle2
 replace hG := hG.mono hle2
 obtain ⟨ao2, cap2, rfl, h2, hc2⟩ := hR2
 refine wq rfl rfl rfl (ov_move rfl rfl) ?_
 refine wq rfl rfl rfl (ov_extract rfl rfl rfl) ?_
 refine wq rfl rfl rfl (ov_extract rfl rfl rfl) ?_
 refine wq rfl rfl rfl (ov_assign rfl rfl) ?_
 refine wq rfl rfl rfl (ov_assign rfl rfl) ?_
 refine WL.nil (then_normal (WP.seq (WP.region ?_)))
 refine wq rfl rfl rfl (ov_load_whole (i := 0) Tryz.isAgg24 Tryz.sizeOf24 rfl rfl rfl rfl) ?_
 obtain ⟨r3, e3, hm⟩ := bind_some hm
 refine WL.step (Runs.free rfl) rfl rfl (os_con Tryz.call18 rfl rfl (fun w' s => (sequence_Repeats_con r1.1 ao1 cap1  w' H2 s.hold h1 hc1 hG r3 e3)) (fun rr3 H3 hle3 hR3 => ?_))
 replace h1 := h1.mono hle3
 replace h2 := h2.mono hle3
 replace hG := hG.mono hle3
 obtain ⟨ao3, cap3, rfl, h3, hc3⟩ := hR3
 refine wq rfl rfl rfl (ov_move rfl rfl) ?_
 refine wq rfl rfl rfl (ov_extract rfl rfl rfl) ?_
 refine wq rfl rfl rfl (ov_extract rfl rfl rfl) ?_
 refine wq rfl rfl rfl (ov_assign rfl rfl) ?_
 refine wq rfl rfl rfl (ov_assign rfl rfl) ?_
 refine WL.nil (then_normal (WP.seq (WP.seq (WP.region ?_))))
 refine wq rfl rfl rfl (ov_move rfl rfl) ?_
 refine wq rfl rfl rfl (ov_move rfl rfl) ?_
 refine wq rfl rfl rfl (ov_add rfl rfl rfl) ?_
 refine wq rfl rfl rfl (ov_move rfl rfl) ?_
 refine wq rfl rfl rfl (ov_add rfl rfl rfl) ?_
 refine wq rfl rfl rfl (ov_neq rfl rfl rfl) ?_
 refine wq rfl rfl rfl (ov_move rfl rfl) ?_
 obtain ⟨c1, e4, hm⟩ := bind_some hm
 refine WL.cut_bool 5 44 (x := c1) ?_ ?_
 ·
  rcases Bool.eq_false_or_eq_true ((IntKind.wrap .i64 ((IntKind.wrap .i64 (r1.2.2 + r2.2)) + r3.2)) != 0) with hc4 | hc4
  ·
   skip
   replace hm := ite_t hc4 e4
   refine WL.idle (Idle.no rfl rfl rfl hc4) rfl rfl ?_
   refine WL.idle (Idle.no rfl rfl rfl hc4) rfl rfl ?_
   refine WL.idle (Idle.no rfl rfl rfl hc4) rfl rfl ?_
   refine WL.idle (Idle.no rfl rfl rfl hc4) rfl rfl ?_
   refine wq rfl rfl rfl (ov_pick_true rfl (guard_eq rfl hc4) rfl) ?_
   exact WL.nil ⟨Sub.cons' rfl (congrArg Value.bool (Option.some.inj hm)) (Sub.skip rfl (Sub.skip rfl (Sub.skip rfl (Sub.skip rfl (Sub.skip rfl (Sub.refl _)))))), fun _ s => s⟩
  ·
   skip
   replace hm := ite_f hc4 e4
   refine WL.quiet (Runs.yes rfl rfl rfl hc4) rfl rfl (OV.quiet (ov_move rfl rfl)) ?_
   have rl1 : RL H3 encBool ([true, true] : List Bool) [(.bool true), (.bool true)] := RL.cons (cs := [(.bool true)]) (xs := [(.bool true)]) rfl (RL.cons (cs := [(.bool true)]) (xs := []) rfl (RL.nil _ _))
   refine WL.step (Runs.yes rfl rfl rfl hc4) rfl rfl (os_buildSlice (cs := [(.bool true), (.bool true)]) (E := 4) (sz := 1) rfl rfl (fun _ => by kernel_rfl) rfl (by decide) (fun b2 => ?_))
   refine WL.held rl1 (fun H4 hc5 hle4 h4 => ?_)
   replace h1 := h1.mono hle4
   replace h2 := h2.mono hle4
   replace h3 := h3.mono hle4
   replace hG := hG.mono hle4
   obtain ⟨r4, e5, hm⟩ := bind_some hm
   refine WL.quiet (Runs.yes rfl rfl rfl hc4) rfl rfl (oq_con (r := (.bool r4)) Tryz.call39 rfl rfl (fun w' s => ⟨_, (slices_Equal_boolbool_con r2.1 ([true, true] : List Bool) ao2 cap2 (some ⟨b2, 0, none⟩) 2  w' H4 s.hold h2 hc2 h4 hc5 hG r4 e5)⟩)) ?_
   refine WL.quiet (Runs.yes rfl rfl rfl hc4) rfl rfl (OV.quiet (ov_not rfl rfl)) ?_
   refine wq rfl rfl rfl (ov_pick_false rfl (guard_eq rfl hc4) rfl) ?_
   exact WL.nil ⟨Sub.cons' rfl (congrArg Value.bool (Option.some.inj hm)) (Sub.skip rfl (Sub.skip rfl (Sub.skip rfl (Sub.skip rfl (Sub.skip rfl (Sub.refl _)))))), fun _ s => (s.heap hle4)⟩
 refine wq rfl rfl rfl (ov_move rfl rfl) ?_
 obtain ⟨c2, e6, hm⟩ := bind_some hm
 refine WL.cut_bool 5 50 (x := c2) ?_ ?_
 ·
  rcases Bool.eq_false_or_eq_true c1 with hc6 | hc6
  ·
   skip
   replace hm := ite_t hc6 e6
   refine WL.idle (Idle.no rfl rfl rfl hc6) rfl rfl ?_
   refine WL.idle (Idle.no rfl rfl rfl hc6) rfl rfl ?_
   refine WL.idle (Idle.no rfl rfl rfl hc6) rfl rfl ?_
   refine WL.idle (Idle.no rfl rfl rfl hc6) rfl rfl ?_
   refine wq rfl rfl rfl (ov_pick_true rfl (guard_eq rfl hc6) rfl) ?_
   exact WL.nil ⟨Sub.cons' rfl (congrArg Value.bool (Option.some.inj hm)) (Sub.skip rfl (Sub.skip rfl (Sub.skip rfl (Sub.skip rfl (Sub.skip rfl (Sub.refl _)))))), fun _ s => s⟩
  ·
   skip
   replace hm := ite_f hc6 e6
   refine WL.quiet (Runs.yes rfl rfl rfl hc6) rfl rfl (OV.quiet (ov_move rfl rfl)) ?_
   have rl2 : RL H3 (encInt .i64) ([3] : List Int) [(.int .i64 3)] := RL.cons (cs := [(.int .i64 3)]) (xs := []) rfl (RL.nil _ _)
   refine WL.step (Runs.yes rfl rfl rfl hc6) rfl rfl (os_buildSlice (cs := [(.int .i64 3)]) (E := 3) (sz := 1) rfl rfl (fun _ => by kernel_rfl) rfl (by decide) (fun b3 => ?_))
   refine WL.held rl2 (fun H5 hc7 hle5 h5 => ?_)
   replace h1 := h1.mono hle5
   replace h2 := h2.mono hle5
   replace h3 := h3.mono hle5
   replace hG := hG.mono hle5
   obtain ⟨r5, e7, hm⟩ := bind_some hm
   refine WL.quiet (Runs.yes rfl rfl rfl hc6) rfl rfl (oq_con (r := (.bool r5)) Tryz.call40 rfl rfl (fun w' s => ⟨_, (slices_Equal_intint_con r3.1 ([3] : List Int) ao3 cap3 (some ⟨b3, 0, none⟩) 1  w' H5 s.hold h3 hc3 h5 hc7 hG r5 e7)⟩)) ?_
   refine WL.quiet (Runs.yes rfl rfl rfl hc6) rfl rfl (OV.quiet (ov_not rfl rfl)) ?_
   refine wq rfl rfl rfl (ov_pick_false rfl (guard_eq rfl hc6) rfl) ?_
   exact WL.nil ⟨Sub.cons' rfl (congrArg Value.bool (Option.some.inj hm)) (Sub.skip rfl (Sub.skip rfl (Sub.skip rfl (Sub.skip rfl (Sub.skip rfl (Sub.refl _)))))), fun _ s => (s.heap hle5)⟩
 refine WL.nil (then_normal ?_)
 refine WP.cond rfl (fun hc8 => ?_) (fun hc8 => ?_)
 ·
  replace hm := ite_t hc8 hm
  refine WP.seq (WP.region ?_)
  refine wq rfl rfl rfl (ov_assign rfl rfl) ?_
  refine WL.nil (then_normal (WP.ret (then_ret ?_)))
  obtain rfl := Option.some.inj hm
  refine retQ_ret Tryz.results12 (Res.tmp rfl Res.nil) rfl (fun w' s => ⟨s.below, ?_⟩)
  exact rfl
 ·
  replace hm := ite_f hc8 hm
  refine WP.skip (then_normal (WP.seq (WP.region ?_)))
  obtain ⟨r6, e8, hm⟩ := bind_some hm
  refine WL.step (Runs.free rfl) rfl rfl (os_con Tryz.call47 rfl rfl (fun w' s => (sequence_Parse_con [65, 43, 32, 66, 43, 59, 32, 65, 45, 32, 66, 45]  w' H3 s.hold hG r6 e8)) (fun rr4 H6 hle6 hR4 => ?_))
  replace h1 := h1.mono hle6
  replace h2 := h2.mono hle6
  replace h3 := h3.mono hle6
  replace hG := hG.mono hle6
  obtain ⟨ao4, cap4, rfl, h6, hc9⟩ := hR4
  refine wq rfl rfl rfl (ov_move rfl rfl) ?_
  refine wq rfl rfl rfl (ov_extract rfl rfl rfl) ?_
  refine wq rfl rfl rfl (ov_extract rfl rfl rfl) ?_
  refine wq rfl rfl rfl (ov_extract rfl rfl rfl) ?_
  refine WL.step (Runs.free rfl) rfl rfl (os_alloc (cs := [(.int .i64 0), (.slice none 0 0)]) Tryz.zeroValue24 rfl rfl (fun b4 => ?_))
  refine WL.step0 (Runs.free rfl) rfl (os_store (i := 0) (vs := [(.int .i64 r6.1.actuators), (.slice ao4 r6.1.steps.length cap4)]) (cs' := [(.int .i64 r6.1.actuators), (.slice ao4 r6.1.steps.length cap4)]) Tryz.sizeOf24 rfl rfl rfl rfl rfl rfl rfl rfl rfl ?_)
  refine wq rfl rfl rfl (ov_assign rfl rfl) ?_
  refine wq rfl rfl rfl (ov_assign rfl rfl) ?_
  refine WL.nil (then_normal (WP.seq (WP.region ?_)))
  refine wq rfl rfl rfl (ov_load_whole (i := 0) Tryz.isAgg24 Tryz.sizeOf24 rfl rfl rfl rfl) ?_
  obtain ⟨r7, e9, hm⟩ := bind_some hm
  refine WL.quiet (Runs.free rfl) rfl rfl (oq_con (r := (.tuple #[(.int .i64 r7.1), (.int .i64 r7.2)])) Tryz.call28 rfl rfl (fun w' s => ⟨_, (sequence_Words_con r6.1 ao4 cap4  w' H6 s.hold h6 hc9 hG r7 e9)⟩)) ?_
  refine wq rfl rfl rfl (ov_move rfl rfl) ?_
  refine wq rfl rfl rfl (ov_extract rfl rfl rfl) ?_
  refine wq rfl rfl rfl (ov_extract rfl rfl rfl) ?_
  refine wq rfl rfl rfl (ov_assign rfl rfl) ?_
  refine wq rfl rfl rfl (ov_assign rfl rfl) ?_
  refine WL.nil (then_normal (WP.seq (WP.region ?_)))
  refine wq rfl rfl rfl (ov_load_whole (i := 0) Tryz.isAgg24 Tryz.sizeOf24 rfl rfl rfl rfl) ?_
  refine wq rfl rfl rfl (ov_build (r := (.agg #[(.int .i64 0), (.bool true)])) rfl rfl (fun _ => by kernel_rfl)) ?_
  refine wq rfl rfl rfl (ov_build (r := (.agg #[(.int .i64 1), (.bool true)])) rfl rfl (fun _ => by kernel_rfl)) ?_
  refine wq rfl rfl rfl (ov_build (r := (.agg #[(.int .i64 1), (.bool false)])) rfl rfl (fun _ => by kernel_rfl)) ?_
  refine wq rfl rfl rfl (ov_build (r := (.agg #[(.int .i64 0), (.bool false)])) rfl rfl (fun _ => by kernel_rfl)) ?_
  have rl3 : RL H6 encStroke ([(Stroke.mk 0 true), (Stroke.mk 1 true), (Stroke.mk 1 false), (Stroke.mk 0 false)] : List Stroke) [(.int .i64 0), (.bool true), (.int .i64 1), (.bool true), (.int .i64 1), (.bool false), (.int .i64 0), (.bool false)] := RL.cons (cs := [(.int .i64 0), (.bool true)]) (xs := [(.int .i64 1), (.bool true), (.int .i64 1), (.bool false), (.int .i64 0), (.bool false)]) rfl (RL.cons (cs := [(.int .i64 1), (.bool true)]) (xs := [(.int .i64 1), (.bool false), (.int .i64 0), (.bool false)]) rfl (RL.cons (cs := [(.int .i64 1), (.bool false)]) (xs := [(.int .i64 0), (.bool false)]) rfl (RL.cons (cs := [(.int .i64 0), (.bool false)]) (xs := []) rfl (RL.nil _ _))))
  refine WL.step (Runs.free rfl) rfl rfl (os_buildSlice (cs := [(.int .i64 0), (.bool true), (.int .i64 1), (.bool true), (.int .i64 1), (.bool false), (.int .i64 0), (.bool false)]) (E := 40) (sz := 2) rfl rfl (fun _ => by kernel_rfl) rfl (by decide) (fun b5 => ?_))
  refine WL.held rl3 (fun H7 hc10 hle7 h7 => ?_)
  replace h1 := h1.mono hle7
  replace h2 := h2.mono hle7
  replace h3 := h3.mono hle7
  replace h6 := h6.mono hle7
  replace hG := hG.mono hle7
  obtain ⟨r8, e10, hm⟩ := bind_some hm
  refine WL.quiet (Runs.free rfl) rfl rfl (oq_con (r := (.tuple #[(.bool r8.1), (.int .i64 r8.2)])) Tryz.call13 rfl rfl (fun w' s => ⟨_, (sequence_Accepts_con r6.1 ([(Stroke.mk 0 true), (Stroke.mk 1 true), (Stroke.mk 1 false), (Stroke.mk 0 false)] : List Stroke) ao4 cap4 (some ⟨b5, 0, none⟩) 4  w' H7 s.hold h6 hc9 h7 hc10 hG r8 e10)⟩)) ?_
  refine wq rfl rfl rfl (ov_move rfl rfl) ?_
  refine wq rfl rfl rfl (ov_extract rfl rfl rfl) ?_
  refine wq rfl rfl rfl (ov_extract rfl rfl rfl) ?_
  refine wq rfl rfl rfl (ov_assign rfl rfl) ?_
  refine wq rfl rfl rfl (ov_assign rfl rfl) ?_
  refine WL.nil (then_normal (WP.seq (WP.region ?_)))
  obtain ⟨r9, e11, hm⟩ := bind_some hm
  refine WL.step (Runs.free rfl) rfl rfl (os_con Tryz.call47 rfl rfl (fun w' s => (sequence_Parse_con [65, 43, 59, 32, 66, 43, 59, 32, 65, 45]  w' H7 s.hold hG r9 e11)) (fun rr5 H8 hle8 hR5 => ?_))
  replace h1 := h1.mono hle8
  replace h2 := h2.mono hle8
  replace h3 := h3.mono hle8
  replace h6 := h6.mono hle8
  replace h7 := h7.mono hle8
  replace hG := hG.mono hle8
  obtain ⟨ao5, cap5, rfl, h8, hc11⟩ := hR5
  refine wq rfl rfl rfl (ov_move rfl rfl) ?_
  refine wq rfl rfl rfl (ov_extract rfl rfl rfl) ?_
  refine wq rfl rfl rfl (ov_extract rfl rfl rfl) ?_
  refine wq rfl rfl rfl (ov_extract rfl rfl rfl) ?_
  refine WL.step (Runs.free rfl) rfl rfl (os_alloc (cs := [(.int .i64 0), (.slice none 0 0)]) Tryz.zeroValue24 rfl rfl (fun b6 => ?_))
  refine WL.step0 (Runs.free rfl) rfl (os_store (i := 0) (vs := [(.int .i64 r9.1.actuators), (.slice ao5 r9.1.steps.length cap5)]) (cs' := [(.int .i64 r9.1.actuators), (.slice ao5 r9.1.steps.length cap5)]) Tryz.sizeOf24 rfl rfl rfl rfl rfl rfl rfl rfl rfl ?_)
  refine wq rfl rfl rfl (ov_assign rfl rfl) ?_
  refine wq rfl rfl rfl (ov_assign rfl rfl) ?_
  refine WL.nil (then_normal (WP.seq (WP.region ?_)))
  obtain ⟨r10, e12, hm⟩ := bind_some hm
  refine WL.step (Runs.free rfl) rfl rfl (os_con Tryz.call47 rfl rfl (fun w' s => (sequence_Parse_con [65, 43, 59, 32, 66, 45]  w' H8 s.hold hG r10 e12)) (fun rr6 H9 hle9 hR6 => ?_))
  replace h1 := h1.mono hle9
  replace h2 := h2.mono hle9
  replace h3 := h3.mono hle9
  replace h6 := h6.mono hle9
  replace h7 := h7.mono hle9
  replace h8 := h8.mono hle9
  replace hG := hG.mono hle9
  obtain ⟨ao6, cap6, rfl, h9, hc12⟩ := hR6
  refine wq rfl rfl rfl (ov_move rfl rfl) ?_
  refine wq rfl rfl rfl (ov_extract rfl rfl rfl) ?_
  refine wq rfl rfl rfl (ov_extract rfl rfl rfl) ?_
  refine wq rfl rfl rfl (ov_extract rfl rfl rfl) ?_
  refine WL.step (Runs.free rfl) rfl rfl (os_alloc (cs := [(.int .i64 0), (.slice none 0 0)]) Tryz.zeroValue24 rfl rfl (fun b7 => ?_))
  refine WL.step0 (Runs.free rfl) rfl (os_store (i := 0) (vs := [(.int .i64 r10.1.actuators), (.slice ao6 r10.1.steps.length cap6)]) (cs' := [(.int .i64 r10.1.actuators), (.slice ao6 r10.1.steps.length cap6)]) Tryz.sizeOf24 rfl rfl rfl rfl rfl rfl rfl rfl rfl ?_)
  refine wq rfl rfl rfl (ov_assign rfl rfl) ?_
  refine wq rfl rfl rfl (ov_assign rfl rfl) ?_
  refine WL.nil (then_normal (WP.seq (WP.region ?_)))
  refine wq rfl rfl rfl (ov_fieldAddr Tryz.underlying24 rfl rfl rfl Tryz.sizeOf3 rfl rfl) ?_
  refine WL.step0 (Runs.free rfl) rfl (os_store (i := 3) (vs := [(.int .i64 3)]) (cs' := [(.int .i64 3), (.slice ao1 r1.1.steps.length cap1)]) Tryz.sizeOf3 rfl rfl rfl rfl rfl rfl rfl rfl rfl ?_)
  refine WL.nil (then_normal (WP.seq (WP.region ?_)))
  refine wq rfl rfl rfl (ov_move rfl rfl) ?_
  refine wq rfl rfl rfl (ov_move rfl rfl) ?_
  refine wq rfl rfl rfl (ov_add rfl rfl rfl) ?_
  refine wq rfl rfl rfl (ov_move rfl rfl) ?_
  refine wq rfl rfl rfl (ov_add rfl rfl rfl) ?_
  refine wq rfl rfl rfl (ov_eql rfl rfl rfl) ?_
  refine wq rfl rfl rfl (ov_move rfl rfl) ?_
  refine WL.cut_bool 3 91 (x := (((IntKind.wrap .i64 ((IntKind.wrap .i64 (r6.2.2 + r7.2)) + r8.2)) == 0) && (r7.1 == 4))) ?_ ?_
  ·
   rcases Bool.eq_false_or_eq_true ((IntKind.wrap .i64 ((IntKind.wrap .i64 (r6.2.2 + r7.2)) + r8.2)) == 0) with hc13 | hc13
   ·
    skip
    refine WL.quiet (Runs.yes rfl rfl rfl hc13) rfl rfl (OV.quiet (ov_move rfl rfl)) ?_
    refine WL.quiet (Runs.yes rfl rfl rfl hc13) rfl rfl (OV.quiet (ov_eql rfl rfl rfl)) ?_
    refine wq rfl rfl rfl (ov_pick_true rfl (guard_eq rfl hc13) rfl) ?_
    exact WL.nil ⟨Sub.cons' rfl (congrArg Value.bool (andT hc13)) (Sub.skip rfl (Sub.skip rfl (Sub.skip rfl (Sub.refl _)))), fun _ s => s⟩
   ·
    skip
    refine WL.idle (Idle.no rfl rfl rfl hc13) rfl rfl ?_
    refine WL.idle (Idle.no rfl rfl rfl hc13) rfl rfl ?_
    refine wq rfl rfl rfl (ov_pick_false rfl (guard_eq rfl hc13) rfl) ?_
    exact WL.nil ⟨Sub.cons' rfl (congrArg Value.bool (andF hc13)) (Sub.skip rfl (Sub.skip rfl (Sub.skip rfl (Sub.refl _)))), fun _ s => s⟩
  refine wq rfl rfl rfl (ov_move rfl rfl) ?_
  refine WL.cut_bool 2 94 (x := ((((IntKind.wrap .i64 ((IntKind.wrap .i64 (r6.2.2 + r7.2)) + r8.2)) == 0) && (r7.1 == 4)) && r8.1)) ?_ ?_
  ·
   rcases Bool.eq_false_or_eq_true (((IntKind.wrap .i64 ((IntKind.wrap .i64 (r6.2.2 + r7.2)) + r8.2)) == 0) && (r7.1 == 4)) with hc14 | hc14
   ·
    skip
    refine WL.quiet (Runs.yes rfl rfl rfl hc14) rfl rfl (OV.quiet (ov_move rfl rfl)) ?_
    refine wq rfl rfl rfl (ov_pick_true rfl (guard_eq rfl hc14) rfl) ?_
    exact WL.nil ⟨Sub.cons' rfl (congrArg Value.bool (andT hc14)) (Sub.skip rfl (Sub.skip rfl (Sub.refl _))), fun _ s => s⟩
   ·
    skip
    refine WL.idle (Idle.no rfl rfl rfl hc14) rfl rfl ?_
    refine wq rfl rfl rfl (ov_pick_false rfl (guard_eq rfl hc14) rfl) ?_
    exact WL.nil ⟨Sub.cons' rfl (congrArg Value.bool (andF hc14)) (Sub.skip rfl (Sub.skip rfl (Sub.refl _))), fun _ s => s⟩
  refine wq rfl rfl rfl (ov_move rfl rfl) ?_
  refine WL.cut_bool 3 98 (x := (((((IntKind.wrap .i64 ((IntKind.wrap .i64 (r6.2.2 + r7.2)) + r8.2)) == 0) && (r7.1 == 4)) && r8.1) && (r9.2.2 == 9))) ?_ ?_
  ·
   rcases Bool.eq_false_or_eq_true ((((IntKind.wrap .i64 ((IntKind.wrap .i64 (r6.2.2 + r7.2)) + r8.2)) == 0) && (r7.1 == 4)) && r8.1) with hc15 | hc15
   ·
    skip
    refine WL.quiet (Runs.yes rfl rfl rfl hc15) rfl rfl (OV.quiet (ov_move rfl rfl)) ?_
    refine WL.quiet (Runs.yes rfl rfl rfl hc15) rfl rfl (OV.quiet (ov_eql rfl rfl rfl)) ?_
    refine wq rfl rfl rfl (ov_pick_true rfl (guard_eq rfl hc15) rfl) ?_
    exact WL.nil ⟨Sub.cons' rfl (congrArg Value.bool (andT hc15)) (Sub.skip rfl (Sub.skip rfl (Sub.skip rfl (Sub.refl _)))), fun _ s => s⟩
   ·
    skip
    refine WL.idle (Idle.no rfl rfl rfl hc15) rfl rfl ?_
    refine WL.idle (Idle.no rfl rfl rfl hc15) rfl rfl ?_
    refine wq rfl rfl rfl (ov_pick_false rfl (guard_eq rfl hc15) rfl) ?_
    exact WL.nil ⟨Sub.cons' rfl (congrArg Value.bool (andF hc15)) (Sub.skip rfl (Sub.skip rfl (Sub.skip rfl (Sub.refl _)))), fun _ s => s⟩
  refine wq rfl rfl rfl (ov_move rfl rfl) ?_
  refine WL.cut_bool 3 102 (x := ((((((IntKind.wrap .i64 ((IntKind.wrap .i64 (r6.2.2 + r7.2)) + r8.2)) == 0) && (r7.1 == 4)) && r8.1) && (r9.2.2 == 9)) && (r10.2.2 == 14))) ?_ ?_
  ·
   rcases Bool.eq_false_or_eq_true (((((IntKind.wrap .i64 ((IntKind.wrap .i64 (r6.2.2 + r7.2)) + r8.2)) == 0) && (r7.1 == 4)) && r8.1) && (r9.2.2 == 9)) with hc16 | hc16
   ·
    skip
    refine WL.quiet (Runs.yes rfl rfl rfl hc16) rfl rfl (OV.quiet (ov_move rfl rfl)) ?_
    refine WL.quiet (Runs.yes rfl rfl rfl hc16) rfl rfl (OV.quiet (ov_eql rfl rfl rfl)) ?_
    refine wq rfl rfl rfl (ov_pick_true rfl (guard_eq rfl hc16) rfl) ?_
    exact WL.nil ⟨Sub.cons' rfl (congrArg Value.bool (andT hc16)) (Sub.skip rfl (Sub.skip rfl (Sub.skip rfl (Sub.refl _)))), fun _ s => s⟩
   ·
    skip
    refine WL.idle (Idle.no rfl rfl rfl hc16) rfl rfl ?_
    refine WL.idle (Idle.no rfl rfl rfl hc16) rfl rfl ?_
    refine wq rfl rfl rfl (ov_pick_false rfl (guard_eq rfl hc16) rfl) ?_
    exact WL.nil ⟨Sub.cons' rfl (congrArg Value.bool (andF hc16)) (Sub.skip rfl (Sub.skip rfl (Sub.skip rfl (Sub.refl _)))), fun _ s => s⟩
  refine wq rfl rfl rfl (ov_move rfl rfl) ?_
  obtain ⟨c3, e13, hm⟩ := bind_some hm
  refine WL.cut_bool 4 107 (x := c3) ?_ ?_
  ·
   rcases Bool.eq_false_or_eq_true ((((((IntKind.wrap .i64 ((IntKind.wrap .i64 (r6.2.2 + r7.2)) + r8.2)) == 0) && (r7.1 == 4)) && r8.1) && (r9.2.2 == 9)) && (r10.2.2 == 14)) with hc17 | hc17
   ·
    skip
    replace hm := ite_t hc17 e13
    refine WL.quiet (Runs.yes rfl rfl rfl hc17) rfl rfl (OV.quiet (ov_load_whole (i := 3) Tryz.isAgg24 Tryz.sizeOf24 rfl rfl rfl rfl)) ?_
    obtain ⟨r11, e14, hm⟩ := bind_some hm
    refine WL.quiet (Runs.yes rfl rfl rfl hc17) rfl rfl (oq_con (r := (.int .i64 r11)) Tryz.call30 rfl rfl (fun w' s => ⟨_, (sequence_Check_con (Sequence.mk 3 r1.1.steps) ao1 cap1  w' H9 s.hold h1 hc1 hG r11 e14)⟩)) ?_
    refine WL.quiet (Runs.yes rfl rfl rfl hc17) rfl rfl (OV.quiet (ov_eql rfl rfl rfl)) ?_
    refine wq rfl rfl rfl (ov_pick_true rfl (guard_eq rfl hc17) rfl) ?_
    exact WL.nil ⟨Sub.cons' rfl (congrArg Value.bool (Option.some.inj hm)) (Sub.skip rfl (Sub.skip rfl (Sub.skip rfl (Sub.skip rfl (Sub.refl _))))), fun _ s => s⟩
   ·
    skip
    replace hm := ite_f hc17 e13
    refine WL.idle (Idle.no rfl rfl rfl hc17) rfl rfl ?_
    refine WL.idle (Idle.no rfl rfl rfl hc17) rfl rfl ?_
    refine WL.idle (Idle.no rfl rfl rfl hc17) rfl rfl ?_
    refine wq rfl rfl rfl (ov_pick_false rfl (guard_eq rfl hc17) rfl) ?_
    exact WL.nil ⟨Sub.cons' rfl (congrArg Value.bool (Option.some.inj hm)) (Sub.skip rfl (Sub.skip rfl (Sub.skip rfl (Sub.skip rfl (Sub.refl _))))), fun _ s => s⟩
  refine wq rfl rfl rfl (ov_assign rfl rfl) ?_
  refine WL.nil (then_normal (WP.ret ?_))
  obtain rfl := Option.some.inj hm
  refine retQ_ret Tryz.results12 (Res.tmp rfl Res.nil) rfl (fun w' s => ⟨s.below, ?_⟩)
  exact rfl

end Go.Proofs.YtbhcojijafbdiaaGreatDoor.W
