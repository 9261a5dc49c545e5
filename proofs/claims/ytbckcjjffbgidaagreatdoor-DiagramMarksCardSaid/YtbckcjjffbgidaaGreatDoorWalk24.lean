/- The walks. Written by our own program gen.py; Lean checks it. -/
import Derived.Test.YtbckcjjffbgidaaGreatDoorPlain
import Derived.Test.YtbckcjjffbgidaaGreatDoorEqs
import Derived.Test.YtbckcjjffbgidaaGreatDoorProg
import Derived.Test.YtbckcjjffbgidaaGreatDoorExt
import Derived.Test.YtbckcjjffbgidaaGreatDoorBuild
import Derived.Test.YtbckcjjffbgidaaGreatDoorClone
import Derived.Test.YtbckcjjffbgidaaGreatDoorWalk2
import Derived.Test.YtbckcjjffbgidaaGreatDoorWalk12
import Derived.Test.YtbckcjjffbgidaaGreatDoorWalk14
set_option linter.unusedVariables false
set_option maxRecDepth 100000
set_option maxHeartbeats 4000000
namespace Go.Proofs.YtbckcjjffbgidaaGreatDoor.W
open Go Go.RowKit Go.Proofs.Tryz
theorem ref16_Marks_con (p_s : Sequence) (p_before : (List Int)) (ao1 : Option Addr) (cap1 : Nat) (ao2 : Option Addr) (cap2 : Nat) (w : World) (H : Heap) (hH : Le H (hp w)) (h1 : SL H encStep ao1 p_s.steps) (hc1 : p_s.steps.length ≤ cap1) (h2 : SL H (encInt .i64) ao2 p_before) (hc2 : p_before.length ≤ cap2) (hG : Glob H) (r : ((List (List UInt8)) × Int)) (hm : ref16_Marks p_s p_before = some r) :
  Con prog 21 [(.agg #[(.int .i64 p_s.actuators), (.slice ao1 p_s.steps.length cap1)]), (.slice ao2 p_before.length cap2)] w H (fun v H' => ∃ (ao3 : Option Addr) (cap3 : Nat), v = (.tuple #[(.slice ao3 r.1.length cap3), (.int .i64 r.2)]) ∧ SL H' encStr ao3 r.1 ∧ r.1.length ≤ cap3) := by
 unfold ref16_Marks at hm
 refine con_of hH func21 rfl 55 ntmps21 rfl ?_
 refine WP.seq (WP.region ?_)
 refine ws rfl (os_box (cs := [(.int .i64 p_s.actuators), (.slice ao1 p_s.steps.length cap1)]) rfl rfl rfl (fun b1 => ?_))
 refine Va rfl (Va rfl (WL.nil (tn (WP.seq (WP.seq (WP.region (V rfl (ov_load_whole (i := 0) isAgg24 sizeOf24 rfl rfl rfl rfl) ?_)))))))
 obtain ⟨r1, e1, hm⟩ := bind_some hm
 refine wo rfl (oq_con (r := (.int .i64 r1)) call38 rfl rfl (fun w' s => ⟨_, (ref14_Check_con p_s ao1 cap1  w' H s.hold h1 hc1 hG r1 e1)⟩)) ?_
 refine Va rfl (WL.nil (tn (WP.seq (WP.region (Vm rfl (V rfl (ov_neq rfl rfl rfl) (WL.nil (tn ?_))))))))
 refine WP.cond rfl (fun hc4 => ?_) (fun hc4 => ?_)
 ·
  replace hm := ite_t hc4 hm
  refine WP.seq (WP.region (Vm rfl (Va rfl (Va rfl (WL.nil (tn (WP.ret (then_ret ?_))))))))
  obtain rfl := Option.some.inj hm
  refine retQ_ret results21 (Res.tmp rfl (Res.tmp rfl Res.nil)) rfl (fun w' s => ⟨s.below, ?_⟩)
  exact ⟨none, 0, rfl, SL.nil _ _ _, Nat.le_refl _⟩
 replace hm := ite_f hc4 hm
 refine WP.skip (tn ?_)
 obtain ⟨k1, hk1, hm⟩ := joinK_some hm
 refine WP.seq_join (fun g' S' => Sub [(1, (.slice ao2 p_before.length cap2)), (2, (pB b1 0)), (1000000007, (.bool false))] g' ∧ (∀ w', S' w' → St w H [.blk b1 24 [(.int .i64 p_s.actuators), (.slice ao1 p_s.steps.length cap1)]] H w') ∧ k1 = some r) ?_ ?_
 ·
  refine WP.seq (WP.region (Va rfl (WL.nil (tn (WP.block ?_)))))
  refine WP.loop (fun m1 g' S' => ∃ (i1 : Int), Sub [(1, (.slice ao2 p_before.length cap2)), (2, (pB b1 0)), (7, (.int .i64 i1)), (1000000007, (.bool false))] g' ∧ (∀ w', S' w' → St w H [.blk b1 24 [(.int .i64 p_s.actuators), (.slice ao1 p_s.steps.length cap1)]] H w') ∧ ref16_Marks_loop1 p_s p_before k1 m1 i1 = some r) ((Int.toNat ((p_before.length : Int) - 0) + 1)) ⟨0, (Sub.all rfl), fun w' s => s, hm⟩ ?_ ?_
  ·
   rintro g' S' ⟨_, _, _, hm⟩
   exact none_some hm
  rintro m1 g' S' ⟨i1, hsub1, hS1, hm⟩
  refine WP.sub hsub1 (WP.weaken hS1 ?_)
  rw [ref16_Marks_loop1] at hm
  refine WP.seq (WP.seq (WP.region (Vm rfl (Vm rfl (V rfl (ov_len_slice underlying39 rfl rfl) (V rfl (ov_lss rfl rfl rfl) (WL.nil (tn ?_))))))))
  refine WP.cond rfl (fun hc5 => ?_) (fun hc5 => ?_)
  ·
   replace hm := ite_t hc5 hm
   refine WP.skip (tn (WP.seq (WP.block (WP.seq (WP.seq ?_)))))
   refine WP.region_draws (by kernel_rfl) (by kernel_rfl) (fun _ s => s.drew) ?_
   refine qf rfl (ov_move rfl rfl) ?_
   refine qf rfl (ov_move rfl rfl) ?_
   obtain ⟨x1, e2, hm⟩ := bind_some hm
   obtain ⟨h4, h5, h6, cs1, h7, h8⟩ := h2.get e2 (by decide)
   obtain rfl : cs1 = [(.int .i64 x1)] := h7
   refine qf rfl (ov_indexAddr underlying39 sizeOf3 rfl rfl rfl h4 h5 h6) ?_
   refine qf rfl (ov_load_elem (v := (.int .i64 x1)) isAgg3 rfl rfl h8) ?_
   refine qf rfl (ov_lss rfl rfl rfl) ?_
   refine qf rfl (ov_move rfl rfl) ?_
   obtain ⟨c1, e3, hm⟩ := bind_some hm
   refine QL.part_bool 9 33 (x := c1) ?_ ?_
   ·
    rcases Bool.eq_false_or_eq_true (decide (x1 < 0)) with hc6 | hc6
    ·
     replace hm := ite_t hc6 e3
     refine QL.idle (Idle.no rfl rfl rfl hc6) rfl rfl ?_
     refine QL.idle (Idle.no rfl rfl rfl hc6) rfl rfl ?_
     refine QL.idle (Idle.no rfl rfl rfl hc6) rfl rfl ?_
     refine QL.idle (Idle.no rfl rfl rfl hc6) rfl rfl ?_
     refine QL.idle (Idle.no rfl rfl rfl hc6) rfl rfl ?_
     refine QL.idle (Idle.no rfl rfl rfl hc6) rfl rfl ?_
     refine QL.idle (Idle.no rfl rfl rfl hc6) rfl rfl ?_
     refine QL.idle (Idle.no rfl rfl rfl hc6) rfl rfl ?_
     refine qf rfl (ov_pick_true rfl (guard_eq rfl hc6) rfl) ?_
     exact QL.nil (Sub.cons' rfl (congrArg Value.bool (Option.some.inj hm)) (Sub.dropn 9 rfl))
    replace hm := ite_f hc6 e3
    refine qy hc6 rfl (ov_move rfl rfl) ?_
    refine qy hc6 rfl (ov_move rfl rfl) ?_
    obtain ⟨x2, e4, hm⟩ := bind_some hm
    obtain ⟨h9, h10, h11, cs2, h12, h13⟩ := h2.get e4 (by decide)
    obtain rfl : cs2 = [(.int .i64 x2)] := h12
    refine qy hc6 rfl (ov_indexAddr underlying39 sizeOf3 rfl rfl rfl h9 h10 h11) ?_
    refine qy hc6 rfl (ov_load_elem (v := (.int .i64 x2)) isAgg3 rfl rfl h13) ?_
    refine qy hc6 rfl (ov_fieldAddr underlying24 rfl rfl rfl sizeOf22 rfl rfl) ?_
    refine qy hc6 rfl (ov_load_box (i := 0) isAgg22 rfl rfl rfl rfl) ?_
    refine qy hc6 rfl (ov_len_slice underlying22 rfl rfl) ?_
    refine qy hc6 rfl (ov_geq rfl rfl rfl) ?_
    refine qf rfl (ov_pick_false rfl (guard_eq rfl hc6) rfl) ?_
    exact QL.nil (Sub.cons' rfl (congrArg Value.bool (Option.some.inj hm)) (Sub.dropn 9 rfl))
   refine QL.nil ?_
   refine tn ?_
   refine WP.cond rfl (fun hc7 => ?_) (fun hc7 => ?_)
   ·
    replace hm := ite_t hc7 hm
    refine WP.seq (WP.region (Va rfl (Va rfl (WL.nil (tn (WP.ret (then_ret (block_ret (then_ret (then_ret (block_ret (then_ret ?_))))))))))))
    obtain rfl := Option.some.inj hm
    refine retQ_ret results21 (Res.tmp rfl (Res.tmp rfl Res.nil)) rfl (fun w' s => ⟨s.below, ?_⟩)
    exact ⟨none, 0, rfl, SL.nil _ _ _, Nat.le_refl _⟩
   replace hm := ite_f hc7 hm
   refine WP.skip (tn (WP.seq ?_))
   refine WP.region_draws (by kernel_rfl) (by kernel_rfl) (fun _ s => s.drew) ?_
   refine qf rfl (ov_move rfl rfl) ?_
   refine qf rfl (ov_gtr rfl rfl rfl) ?_
   refine qf rfl (ov_move rfl rfl) ?_
   obtain ⟨c2, e5, hm⟩ := bind_some hm
   refine QL.part_bool 11 47 (x := c2) ?_ ?_
   ·
    rcases Bool.eq_false_or_eq_true (decide (i1 > 0)) with hc8 | hc8
    ·
     replace hm := ite_t hc8 e5
     refine qy hc8 rfl (ov_move rfl rfl) ?_
     refine qy hc8 rfl (ov_move rfl rfl) ?_
     obtain ⟨x3, e6, hm⟩ := bind_some hm
     obtain ⟨h14, h15, h16, cs3, h17, h18⟩ := h2.get e6 (by decide)
     obtain rfl : cs3 = [(.int .i64 x3)] := h17
     refine qy hc8 rfl (ov_indexAddr underlying39 sizeOf3 rfl rfl rfl h14 h15 h16) ?_
     refine qy hc8 rfl (ov_load_elem (v := (.int .i64 x3)) isAgg3 rfl rfl h18) ?_
     refine qy hc8 rfl (ov_move rfl rfl) ?_
     refine qy hc8 rfl (ov_move rfl rfl) ?_
     refine qy hc8 rfl (ov_sub rfl rfl rfl) ?_
     obtain ⟨x4, e7, hm⟩ := bind_some hm
     obtain ⟨h19, h20, h21, cs4, h22, h23⟩ := h2.get e7 (by decide)
     obtain rfl : cs4 = [(.int .i64 x4)] := h22
     refine qy hc8 rfl (ov_indexAddr underlying39 sizeOf3 rfl rfl rfl h19 h20 h21) ?_
     refine qy hc8 rfl (ov_load_elem (v := (.int .i64 x4)) isAgg3 rfl rfl h23) ?_
     refine qy hc8 rfl (ov_leq rfl rfl rfl) ?_
     refine qf rfl (ov_pick_true rfl (guard_eq rfl hc8) rfl) ?_
     exact QL.nil (Sub.cons' rfl (congrArg Value.bool (Option.some.inj hm)) (Sub.dropn 11 rfl))
    replace hm := ite_f hc8 e5
    refine QL.idle (Idle.no rfl rfl rfl hc8) rfl rfl ?_
    refine QL.idle (Idle.no rfl rfl rfl hc8) rfl rfl ?_
    refine QL.idle (Idle.no rfl rfl rfl hc8) rfl rfl ?_
    refine QL.idle (Idle.no rfl rfl rfl hc8) rfl rfl ?_
    refine QL.idle (Idle.no rfl rfl rfl hc8) rfl rfl ?_
    refine QL.idle (Idle.no rfl rfl rfl hc8) rfl rfl ?_
    refine QL.idle (Idle.no rfl rfl rfl hc8) rfl rfl ?_
    refine QL.idle (Idle.no rfl rfl rfl hc8) rfl rfl ?_
    refine QL.idle (Idle.no rfl rfl rfl hc8) rfl rfl ?_
    refine QL.idle (Idle.no rfl rfl rfl hc8) rfl rfl ?_
    refine qf rfl (ov_pick_false rfl (guard_eq rfl hc8) rfl) ?_
    exact QL.nil (Sub.cons' rfl (congrArg Value.bool (Option.some.inj hm)) (Sub.dropn 11 rfl))
   refine QL.nil ?_
   refine tn ?_
   refine WP.cond rfl (fun hc9 => ?_) (fun hc9 => ?_)
   ·
    replace hm := ite_t hc9 hm
    refine WP.seq (WP.region (Va rfl (Va rfl (WL.nil (tn (WP.ret (block_ret (then_ret (then_ret (block_ret (then_ret ?_)))))))))))
    obtain rfl := Option.some.inj hm
    refine retQ_ret results21 (Res.tmp rfl (Res.tmp rfl Res.nil)) rfl (fun w' s => ⟨s.below, ?_⟩)
    exact ⟨none, 0, rfl, SL.nil _ _ _, Nat.le_refl _⟩
   replace hm := ite_f hc9 hm
   refine WP.skip (bn (tn (WP.region (Vm rfl (V rfl (ov_add rfl rfl rfl) (Va rfl (WL.nil (tn ?_))))))))
   exact ⟨(IntKind.wrap .i64 (i1 + 1)), (Sub.all rfl), fun w' s => s, hm⟩
  replace hm := ite_f hc5 hm
  refine WP.exit (then_exit (then_exit (block_here (tn ?_))))
  exact ⟨(Sub.all rfl), fun w' s => s, hm⟩
 rintro g' S' ⟨hsub2, hS2, hm⟩
 refine WP.sub hsub2 (WP.weaken hS2 ?_)
 replace hm := hk1.symm.trans hm
 refine WP.seq ?_
 refine WP.region_any (S₀ := St w H [.blk b1 24 [(.int .i64 p_s.actuators), (.slice ao1 p_s.steps.length cap1)]] H) 9 rfl (by kernel_rfl) (fun w' s => s) (fun _ s => s.drew) ?_
 refine TQ 0 (by kernel_rfl) rfl (ov_load_whole (i := 0) isAgg24 sizeOf24 rfl rfl rfl rfl) (TQ 1 (by kernel_rfl) rfl (ov_fieldAddr underlying24 rfl rfl rfl sizeOf22 rfl rfl) (TQ 2 (by kernel_rfl) rfl (ov_load_box (i := 0) isAgg22 rfl rfl rfl rfl) (TQ 3 (by kernel_rfl) rfl (ov_len_slice underlying22 rfl rfl) (TQ 5 (by kernel_rfl) rfl (ov_move rfl rfl) ?_))))
 refine AL.any (rs := [4]) (by kernel_rfl) (by decide) ?_
 refine ALs.cons (i := 4) rfl (Runs.free rfl) rfl rfl ?_ ?_
 ·
  obtain ⟨r2, e8, hm⟩ := bind_some hm
  refine os_con call55 rfl rfl (fun w' s => (ref16_ones_con (p_s.steps.length : Int)  w' H s.hold hG r2 e8)) (fun rr1 H1 hle1 hR1 => ?_)
  replace h2 := h2.mono hle1
  replace h1 := h1.mono hle1
  replace hG := hG.mono hle1
  obtain ⟨ao4, cap4, rfl, h24, hc10⟩ := hR1
  refine ⟨fun w' s => (s.heap hle1), ?_⟩
  refine AL.any (rs := [6]) (by kernel_rfl) (by decide) ?_
  refine ALs.cons (i := 6) rfl (Runs.free rfl) rfl rfl ?_ ?_
  ·
   obtain ⟨r3, e9, hm⟩ := bind_some hm
   refine os_con call54 rfl rfl (fun w' s => (ref16_drawn_con p_s r2 p_before ao1 cap1 ao4 cap4 ao2 cap2  w' H1 s.hold h1 hc1 h24 hc10 h2 hc2 hG r3 e9)) (fun rr2 H2 hle2 hR2 => ?_)
   replace h2 := h2.mono hle2
   replace h1 := h1.mono hle2
   replace h24 := h24.mono hle2
   replace hG := hG.mono hle2
   obtain ⟨ao5, cap5, rfl, h25, hc11⟩ := hR2
   refine ⟨fun w' s => (s.heap (hle1.trans hle2)), ?_⟩
   refine TQ 7 (by kernel_rfl) rfl (ov_assign rfl rfl) (TQ 8 (by kernel_rfl) rfl (ov_assign rfl rfl) ?_)
   refine AL.done (by kernel_rfl) ?_
   refine tn (WP.ret ?_)
   obtain rfl := Option.some.inj hm
   refine retQ_ret results21 (Res.tmp rfl (Res.tmp rfl Res.nil)) rfl (fun w' s => ⟨s.below, ?_⟩)
   exact ⟨ao5, cap5, rfl, h25.mono s.le_newer, hc11⟩
  exact ALs.nil
 exact ALs.nil
end Go.Proofs.YtbckcjjffbgidaaGreatDoor.W
