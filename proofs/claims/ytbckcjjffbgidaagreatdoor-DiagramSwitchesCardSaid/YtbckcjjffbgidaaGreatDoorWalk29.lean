/- The walks. Written by our own program gen.py; Lean checks it. -/
import Derived.Test.YtbckcjjffbgidaaGreatDoorPlain
import Derived.Test.YtbckcjjffbgidaaGreatDoorEqs
import Derived.Test.YtbckcjjffbgidaaGreatDoorProg
import Derived.Test.YtbckcjjffbgidaaGreatDoorExt
import Derived.Test.YtbckcjjffbgidaaGreatDoorBuild
import Derived.Test.YtbckcjjffbgidaaGreatDoorClone
import Derived.Test.YtbckcjjffbgidaaGreatDoorWalk7
import Derived.Test.YtbckcjjffbgidaaGreatDoorWalk10
import Derived.Test.YtbckcjjffbgidaaGreatDoorWalk13
import Derived.Test.YtbckcjjffbgidaaGreatDoorWalk20
set_option linter.unusedVariables false
set_option maxRecDepth 100000
set_option maxHeartbeats 4000000
namespace Go.Proofs.YtbckcjjffbgidaaGreatDoor.W
open Go Go.RowKit Go.Proofs.Tryz
theorem law16_DiagramSwitches_con (p_s : Sequence) (ao1 : Option Addr) (cap1 : Nat) (w : World) (H : Heap) (hH : Le H (hp w)) (h1 : SL H encStep ao1 p_s.steps) (hc1 : p_s.steps.length ≤ cap1) (hG : Glob H) (r : Bool) (hm : law16_DiagramSwitches p_s = some r) :
  Con prog 6 [(.agg #[(.int .i64 p_s.actuators), (.slice ao1 p_s.steps.length cap1)])] w H (fun v _ => v = (.bool r)) := by
 unfold law16_DiagramSwitches at hm
 refine con_of hH func6 rfl 105 ntmps6 rfl ?_
 refine WP.seq (WP.region ?_)
 refine ws rfl (os_box (cs := [(.int .i64 p_s.actuators), (.slice ao1 p_s.steps.length cap1)]) rfl rfl rfl (fun b1 => ?_))
 refine Va rfl (WL.nil (tn (WP.seq (WP.seq (WP.region (V rfl (ov_load_whole (i := 0) isAgg24 sizeOf24 rfl rfl rfl rfl) ?_))))))
 obtain ⟨r1, e1, hm⟩ := bind_some hm
 refine wo rfl (oq_con (r := (.bool r1)) call22 rfl rfl (fun w' s => ⟨_, (law16_right_con p_s ao1 cap1  w' H s.hold h1 hc1 hG r1 e1)⟩)) ?_
 refine V rfl (ov_not rfl rfl) (WL.nil (tn ?_))
 refine WP.cond rfl (fun hc2 => ?_) (fun hc2 => ?_)
 ·
  replace hm := ite_t hc2 hm
  refine WP.seq (WP.region ?_)
  obtain ⟨r2, e2, hm⟩ := bind_some hm
  refine wo rfl (oq_con (r := (.bool r2)) call12 rfl rfl (fun w' s => ⟨_, (law16_awake_con   w' H s.hold hG r2 e2)⟩)) ?_
  refine Va rfl (WL.nil (tn (WP.ret (then_ret ?_))))
  obtain rfl := Option.some.inj hm
  refine retQ_ret results6 (Res.tmp rfl Res.nil) rfl (fun w' s => ⟨s.below, ?_⟩)
  exact rfl
 replace hm := ite_f hc2 hm
 refine WP.skip (tn (WP.seq (WP.region (V rfl (ov_load_whole (i := 0) isAgg24 sizeOf24 rfl rfl rfl rfl) ?_))))
 obtain ⟨r3, e3, hm⟩ := bind_some hm
 refine ws rfl (os_con call17 rfl rfl (fun w' s => (diagram_Switches_con p_s ao1 cap1  w' H s.hold h1 hc1 hG r3 e3)) (fun rr1 H1 hle1 hR1 => ?_))
 replace h1 := h1.mono hle1
 replace hG := hG.mono hle1
 obtain ⟨ao2, cap2, rfl, h2, hc3⟩ := hR1
 refine Vm rfl (Ve rfl (Ve rfl (Va rfl (Va rfl (WL.nil (tn (WP.seq (WP.seq (WP.region (Vm rfl (V rfl (ov_neq rfl rfl rfl) (Vm rfl ?_))))))))))))
 refine WL.cut_bool 7 30 (x := ((r3.2 != 0) || ((r3.1.length : Int) != (IntKind.wrap .i64 (2 * p_s.actuators))))) ?_ ?_
 ·
  rcases Bool.eq_false_or_eq_true (r3.2 != 0) with hc4 | hc4
  ·
   refine Vi rfl (Idle.no rfl rfl rfl hc4) (Vi rfl (Idle.no rfl rfl rfl hc4) (Vi rfl (Idle.no rfl rfl rfl hc4) (Vi rfl (Idle.no rfl rfl rfl hc4) (Vi rfl (Idle.no rfl rfl rfl hc4) (Vi rfl (Idle.no rfl rfl rfl hc4) (V rfl (ov_pick_true rfl (guard_eq rfl hc4) rfl) ?_))))))
   exact WL.nil ⟨Sub.cons' rfl (congrArg Value.bool (orT hc4)) (Sub.dropn 7 rfl), fun _ s => s⟩
  refine wy hc4 rfl (ov_move rfl rfl) ?_
  refine wy hc4 rfl (ov_len_slice underlying27 rfl rfl) ?_
  refine wy hc4 rfl (ov_fieldAddr underlying24 rfl rfl rfl sizeOf3 rfl rfl) ?_
  refine wy hc4 rfl (ov_load_box (i := 0) isAgg3 rfl rfl rfl rfl) ?_
  refine wy hc4 rfl (ov_mul rfl rfl rfl) ?_
  refine wy hc4 rfl (ov_neq rfl rfl rfl) ?_
  refine V rfl (ov_pick_false rfl (guard_eq rfl hc4) rfl) ?_
  exact WL.nil ⟨Sub.cons' rfl (congrArg Value.bool (orF hc4)) (Sub.dropn 7 rfl), fun _ s => s⟩
 refine WL.nil (tn ?_)
 refine WP.cond rfl (fun hc5 => ?_) (fun hc5 => ?_)
 ·
  replace hm := ite_t hc5 hm
  refine WP.seq (WP.region (Va rfl (WL.nil (tn (WP.ret (then_ret ?_))))))
  obtain rfl := Option.some.inj hm
  refine retQ_ret results6 (Res.tmp rfl Res.nil) rfl (fun w' s => ⟨s.below, ?_⟩)
  exact rfl
 replace hm := ite_f hc5 hm
 refine WP.skip (tn ?_)
 obtain ⟨k1, hk1, hm⟩ := joinK_some hm
 refine WP.seq_join (fun g' S' => ∃ (H5 : Heap), Le H1 H5 ∧ Sub [(1000000007, (.bool false))] g' ∧ (∀ w', S' w' → St w H [] H5 w') ∧ k1 = some r) ?_ ?_
 ·
  refine WP.seq (WP.region (Va rfl (WL.nil (tn (WP.block ?_)))))
  refine WP.loop (fun m1 g' S' => ∃ (H2 : Heap) (i1 : Int), Le H1 H2 ∧ Sub [(1, (pB b1 0)), (3, (.slice ao2 r3.1.length cap2)), (5, (.int .i64 i1)), (1000000007, (.bool false))] g' ∧ (∀ w', S' w' → St w H [.blk b1 24 [(.int .i64 p_s.actuators), (.slice ao1 p_s.steps.length cap1)]] H2 w') ∧ law16_DiagramSwitches_loop1 p_s k1 r3 m1 i1 = some r) ((p_s.steps.length + 2)) ⟨H1, 0, (Le.refl _), (Sub.all rfl), fun w' s => s, hm⟩ ?_ ?_
  ·
   rintro g' S' ⟨_, _, _, _, _, hm⟩
   exact none_some hm
  rintro m1 g' S' ⟨H2, i1, hle2, hsub1, hS1, hm⟩
  refine WP.sub hsub1 (WP.weaken hS1 ?_)
  rw [law16_DiagramSwitches_loop1] at hm
  replace h2 := h2.mono hle2
  replace h1 := h1.mono hle2
  replace hG := hG.mono hle2
  refine WP.seq (WP.seq (WP.region (Vm rfl (V rfl (ov_fieldAddr underlying24 rfl rfl rfl sizeOf22 rfl rfl) (Vl 0 isAgg22 rfl (V rfl (ov_len_slice underlying22 rfl rfl) (V rfl (ov_leq rfl rfl rfl) (WL.nil (tn ?_)))))))))
  refine WP.cond rfl (fun hc6 => ?_) (fun hc6 => ?_)
  ·
   replace hm := ite_t hc6 hm
   refine WP.skip (tn ?_)
   obtain ⟨k2, hk2, hm⟩ := joinK_some hm
   refine WP.seq_join (fun g' S' => ∃ (H4 : Heap), Le H2 H4 ∧ Sub [(1, (pB b1 0)), (3, (.slice ao2 r3.1.length cap2)), (5, (.int .i64 i1)), (1000000007, (.bool false))] g' ∧ (∀ w', S' w' → St w H [.blk b1 24 [(.int .i64 p_s.actuators), (.slice ao1 p_s.steps.length cap1)]] H4 w') ∧ k2 = some r) ?_ ?_
   ·
    refine WP.block (WP.seq (WP.region (V rfl (ov_load_whole (i := 0) isAgg24 sizeOf24 rfl rfl rfl rfl) (Vm rfl ?_))))
    obtain ⟨r4, e4, hm⟩ := bind_some hm
    refine ws rfl (os_con call24 rfl rfl (fun w' s => (sequence_Ends_con p_s i1 ao1 cap1  w' H2 s.hold h1 hc1 hG r4 e4)) (fun rr2 H3 hle3 hR2 => ?_))
    replace h2 := h2.mono hle3
    replace hG := hG.mono hle3
    obtain ⟨ao3, cap3, rfl, h3, hc7⟩ := hR2
    refine Vm rfl (Ve rfl (Ve rfl (Va rfl (Va rfl (WL.nil (tn (WP.seq (WP.seq (WP.region (Vm rfl (V rfl (ov_neq rfl rfl rfl) (Vm rfl ?_))))))))))))
    refine WL.cut_bool 6 52 (x := ((r4.2 != 0) || ((r4.1.length : Int) != p_s.actuators))) ?_ ?_
    ·
     rcases Bool.eq_false_or_eq_true (r4.2 != 0) with hc8 | hc8
     ·
      refine Vi rfl (Idle.no rfl rfl rfl hc8) (Vi rfl (Idle.no rfl rfl rfl hc8) (Vi rfl (Idle.no rfl rfl rfl hc8) (Vi rfl (Idle.no rfl rfl rfl hc8) (Vi rfl (Idle.no rfl rfl rfl hc8) (V rfl (ov_pick_true rfl (guard_eq rfl hc8) rfl) ?_)))))
      exact WL.nil ⟨Sub.cons' rfl (congrArg Value.bool (orT hc8)) (Sub.dropn 6 rfl), fun _ s => s⟩
     refine wy hc8 rfl (ov_move rfl rfl) ?_
     refine wy hc8 rfl (ov_len_slice underlying49 rfl rfl) ?_
     refine wy hc8 rfl (ov_fieldAddr underlying24 rfl rfl rfl sizeOf3 rfl rfl) ?_
     refine wy hc8 rfl (ov_load_box (i := 0) isAgg3 rfl rfl rfl rfl) ?_
     refine wy hc8 rfl (ov_neq rfl rfl rfl) ?_
     refine V rfl (ov_pick_false rfl (guard_eq rfl hc8) rfl) ?_
     exact WL.nil ⟨Sub.cons' rfl (congrArg Value.bool (orF hc8)) (Sub.dropn 6 rfl), fun _ s => s⟩
    refine WL.nil (tn ?_)
    refine WP.cond rfl (fun hc9 => ?_) (fun hc9 => ?_)
    ·
     replace hm := ite_t hc9 hm
     refine WP.seq (WP.region (Va rfl (WL.nil (tn (WP.ret (then_ret (block_ret (then_ret (then_ret (block_ret (then_ret ?_)))))))))))
     obtain rfl := Option.some.inj hm
     refine retQ_ret results6 (Res.tmp rfl Res.nil) rfl (fun w' s => ⟨s.below, ?_⟩)
     exact rfl
    replace hm := ite_f hc9 hm
    refine WP.skip (tn (WP.seq (WP.region (Vm rfl (V rfl (ov_len_slice underlying49 rfl rfl) (Vm rfl (WL.nil (tn (WP.block ?_)))))))))
    refine WP.loop (fun m2 g' S' => ∃ (i2 : Int), Sub [(1, (pB b1 0)), (3, (.slice ao2 r3.1.length cap2)), (5, (.int .i64 i1)), (53, (.slice ao3 r4.1.length cap3)), (54, (.int .i64 (r4.1.length : Int))), (55, (.int .i64 i2)), (1000000007, (.bool false))] g' ∧ (∀ w', S' w' → St w H [.blk b1 24 [(.int .i64 p_s.actuators), (.slice ao1 p_s.steps.length cap1)]] H3 w') ∧ law16_DiagramSwitches_loop2 p_s r3 i1 k2 r4 m2 i2 = some r) ((Int.toNat ((r4.1.length : Int) - 0) + 1)) ⟨0, (Sub.all rfl), fun w' s => s, hm⟩ ?_ ?_
    ·
     rintro g' S' ⟨_, _, _, hm⟩
     exact none_some hm
    rintro m2 g' S' ⟨i2, hsub2, hS2, hm⟩
    refine WP.sub hsub2 (WP.weaken hS2 ?_)
    rw [law16_DiagramSwitches_loop2] at hm
    refine WP.seq (WP.region (V rfl (ov_lss rfl rfl rfl) (WL.nil (tn (WP.seq ?_)))))
    refine WP.cond rfl (fun hc10 => ?_) (fun hc10 => ?_)
    ·
     replace hm := ite_t hc10 hm
     refine WP.skip (tn (WP.seq (WP.block (WP.seq (WP.region (Vm rfl ?_))))))
     obtain ⟨x1, e5, hm⟩ := bind_some hm
     obtain ⟨h4, h5, h6, cs1, h7, h8⟩ := h3.get e5 (by decide)
     obtain rfl : cs1 = [(.bool x1)] := h7
     refine V rfl (ov_indexAddr underlying49 sizeOf4 rfl rfl rfl h4 h5 h6) (V rfl (ov_load_elem (v := (.bool x1)) isAgg4 rfl rfl h8) (Va rfl (Va rfl (WL.nil (tn (WP.seq ?_))))))
     refine WP.region_draws (by kernel_rfl) (by kernel_rfl) (fun _ s => s.drew) ?_
     refine qf rfl (ov_move rfl rfl) ?_
     refine qf rfl (ov_move rfl rfl) ?_
     refine qf rfl (ov_mul rfl rfl rfl) ?_
     obtain ⟨x2, e6, hm⟩ := bind_some hm
     obtain ⟨h9, h10, h11, cs2, h12, h13⟩ := h2.get e6 (by decide)
     obtain rfl : cs2 = [(mkS x2)] := h12
     refine qf rfl (ov_indexAddr underlying27 sizeOf9 rfl rfl rfl h9 h10 h11) ?_
     refine qf rfl (ov_load_elem (v := (mkS x2)) isAgg9 rfl rfl h13) ?_
     refine qf rfl (ov_move rfl rfl) ?_
     refine qf rfl (ov_move rfl rfl) ?_
     refine qf rfl (ov_mul rfl rfl rfl) ?_
     refine qf rfl (ov_add rfl rfl rfl) ?_
     obtain ⟨x3, e7, hm⟩ := bind_some hm
     obtain ⟨h14, h15, h16, cs3, h17, h18⟩ := h2.get e7 (by decide)
     obtain rfl : cs3 = [(mkS x3)] := h17
     refine qf rfl (ov_indexAddr underlying27 sizeOf9 rfl rfl rfl h14 h15 h16) ?_
     refine qf rfl (ov_load_elem (v := (mkS x3)) isAgg9 rfl rfl h18) ?_
     refine qf rfl (ov_assign rfl rfl) ?_
     refine qf rfl (ov_assign rfl rfl) ?_
     refine QL.nil ?_
     refine tn (WP.seq (WP.region (Vm rfl (V rfl (ov_len_string underlying9 rfl rfl) (V rfl (ov_fieldAddr underlying24 rfl rfl rfl sizeOf22 rfl rfl) (Vl 0 isAgg22 rfl (V rfl (ov_len_slice underlying22 rfl rfl) (V rfl (ov_add rfl rfl rfl) (V rfl (ov_neq rfl rfl rfl) (Vm rfl ?_))))))))))
     refine WL.cut_bool 6 84 (x := (((x2.length : Int) != (IntKind.wrap .i64 ((p_s.steps.length : Int) + 4))) || ((x3.length : Int) != (x2.length : Int)))) ?_ ?_
     ·
      rcases Bool.eq_false_or_eq_true ((x2.length : Int) != (IntKind.wrap .i64 ((p_s.steps.length : Int) + 4))) with hc11 | hc11
      ·
       refine Vi rfl (Idle.no rfl rfl rfl hc11) (Vi rfl (Idle.no rfl rfl rfl hc11) (Vi rfl (Idle.no rfl rfl rfl hc11) (Vi rfl (Idle.no rfl rfl rfl hc11) (Vi rfl (Idle.no rfl rfl rfl hc11) (V rfl (ov_pick_true rfl (guard_eq rfl hc11) rfl) ?_)))))
       exact WL.nil ⟨Sub.cons' rfl (congrArg Value.bool (orT hc11)) (Sub.dropn 6 rfl), fun _ s => s⟩
      refine wy hc11 rfl (ov_move rfl rfl) ?_
      refine wy hc11 rfl (ov_len_string underlying9 rfl rfl) ?_
      refine wy hc11 rfl (ov_move rfl rfl) ?_
      refine wy hc11 rfl (ov_len_string underlying9 rfl rfl) ?_
      refine wy hc11 rfl (ov_neq rfl rfl rfl) ?_
      refine V rfl (ov_pick_false rfl (guard_eq rfl hc11) rfl) ?_
      exact WL.nil ⟨Sub.cons' rfl (congrArg Value.bool (orF hc11)) (Sub.dropn 6 rfl), fun _ s => s⟩
     refine Vm rfl ?_
     obtain ⟨c1, e8, hm⟩ := bind_some hm
     refine WL.cut_bool 8 93 (x := c1) ?_ ?_
     ·
      rcases Bool.eq_false_or_eq_true (((x2.length : Int) != (IntKind.wrap .i64 ((p_s.steps.length : Int) + 4))) || ((x3.length : Int) != (x2.length : Int))) with hc12 | hc12
      ·
       replace hm := ite_t hc12 e8
       refine Vi rfl (Idle.no rfl rfl rfl hc12) (Vi rfl (Idle.no rfl rfl rfl hc12) (Vi rfl (Idle.no rfl rfl rfl hc12) (Vi rfl (Idle.no rfl rfl rfl hc12) (Vi rfl (Idle.no rfl rfl rfl hc12) (Vi rfl (Idle.no rfl rfl rfl hc12) (Vi rfl (Idle.no rfl rfl rfl hc12) (V rfl (ov_pick_true rfl (guard_eq rfl hc12) rfl) ?_)))))))
       exact WL.nil ⟨Sub.cons' rfl (congrArg Value.bool (Option.some.inj hm)) (Sub.dropn 8 rfl), fun _ s => s⟩
      replace hm := ite_f hc12 e8
      refine wy hc12 rfl (ov_move rfl rfl) ?_
      refine wy hc12 rfl (ov_move rfl rfl) ?_
      refine wy hc12 rfl (ov_add rfl rfl rfl) ?_
      obtain ⟨b2, e9, hm⟩ := bind_some hm
      refine wy hc12 rfl (ov_index_string underlying9 rfl rfl rfl e9) ?_
      refine wy hc12 rfl (ov_eql rfl rfl rfl) ?_
      refine wy hc12 rfl (ov_move rfl rfl) ?_
      refine wy hc12 rfl (ov_beql underlying4 rfl rfl rfl) ?_
      refine V rfl (ov_pick_false rfl (guard_eq rfl hc12) rfl) ?_
      exact WL.nil ⟨Sub.cons' rfl (congrArg Value.bool (Option.some.inj hm)) (Sub.dropn 8 rfl), fun _ s => s⟩
     refine Vm rfl ?_
     obtain ⟨c2, e10, hm⟩ := bind_some hm
     refine WL.cut_bool 8 102 (x := c2) ?_ ?_
     ·
      rcases Bool.eq_false_or_eq_true c1 with hc13 | hc13
      ·
       replace hm := ite_t hc13 e10
       refine Vi rfl (Idle.no rfl rfl rfl hc13) (Vi rfl (Idle.no rfl rfl rfl hc13) (Vi rfl (Idle.no rfl rfl rfl hc13) (Vi rfl (Idle.no rfl rfl rfl hc13) (Vi rfl (Idle.no rfl rfl rfl hc13) (Vi rfl (Idle.no rfl rfl rfl hc13) (Vi rfl (Idle.no rfl rfl rfl hc13) (V rfl (ov_pick_true rfl (guard_eq rfl hc13) rfl) ?_)))))))
       exact WL.nil ⟨Sub.cons' rfl (congrArg Value.bool (Option.some.inj hm)) (Sub.dropn 8 rfl), fun _ s => s⟩
      replace hm := ite_f hc13 e10
      refine wy hc13 rfl (ov_move rfl rfl) ?_
      refine wy hc13 rfl (ov_move rfl rfl) ?_
      refine wy hc13 rfl (ov_add rfl rfl rfl) ?_
      obtain ⟨b3, e11, hm⟩ := bind_some hm
      refine wy hc13 rfl (ov_index_string underlying9 rfl rfl rfl e11) ?_
      refine wy hc13 rfl (ov_eql rfl rfl rfl) ?_
      refine wy hc13 rfl (ov_move rfl rfl) ?_
      refine wy hc13 rfl (ov_bneq underlying4 rfl rfl rfl) ?_
      refine V rfl (ov_pick_false rfl (guard_eq rfl hc13) rfl) ?_
      exact WL.nil ⟨Sub.cons' rfl (congrArg Value.bool (Option.some.inj hm)) (Sub.dropn 8 rfl), fun _ s => s⟩
     refine WL.nil (tn ?_)
     refine WP.cond rfl (fun hc14 => ?_) (fun hc14 => ?_)
     ·
      replace hm := ite_t hc14 hm
      refine WP.seq (WP.region (Va rfl (WL.nil (tn (WP.ret (block_ret (then_ret (then_ret (block_ret (block_ret (then_ret (then_ret (block_ret ?_)))))))))))))
      refine then_ret ?_
      obtain rfl := Option.some.inj hm
      refine retQ_ret results6 (Res.tmp rfl Res.nil) rfl (fun w' s => ⟨s.below, ?_⟩)
      exact rfl
     replace hm := ite_f hc14 hm
     refine WP.skip (bn (tn (WP.region (V rfl (ov_add rfl rfl rfl) (Vm rfl (WL.nil (tn ?_)))))))
     exact ⟨(IntKind.wrap .i64 (i2 + 1)), (Sub.all rfl), fun w' s => s, hm⟩
    replace hm := ite_f hc10 hm
    refine WP.exit (then_exit (then_exit (block_here (bn (tn ?_)))))
    exact ⟨H3, hle3, (Sub.all rfl), fun w' s => s, hm⟩
   rintro g' S' ⟨H4, hle4, hsub3, hS3, hm⟩
   refine WP.sub hsub3 (WP.weaken hS3 ?_)
   replace hm := hk2.symm.trans hm
   replace hG := hG.mono hle4
   refine WP.region (Vm rfl (V rfl (ov_add rfl rfl rfl) (Va rfl (WL.nil (tn ?_)))))
   exact ⟨H4, (IntKind.wrap .i64 (i1 + 1)), (hle2.trans hle4), (Sub.all rfl), fun w' s => s, hm⟩
  replace hm := ite_f hc6 hm
  refine WP.exit (then_exit (then_exit (block_here (tn ?_))))
  exact ⟨H2, hle2, (Sub.all rfl), fun w' s => (s.select [] (by decide) rfl), hm⟩
 rintro g' S' ⟨H5, hle5, hsub4, hS4, hm⟩
 refine WP.sub hsub4 (WP.weaken hS4 ?_)
 replace hm := hk1.symm.trans hm
 replace hG := hG.mono hle5
 refine WP.seq (WP.region ?_)
 obtain ⟨r5, e12, hm⟩ := bind_some hm
 refine wo rfl (oq_con (r := (.bool r5)) call12 rfl rfl (fun w' s => ⟨_, (law16_awake_con   w' H5 s.hold hG r5 e12)⟩)) ?_
 refine Va rfl (WL.nil (tn (WP.ret ?_)))
 obtain rfl := Option.some.inj hm
 refine retQ_ret results6 (Res.tmp rfl Res.nil) rfl (fun w' s => ⟨s.below, ?_⟩)
 exact rfl
end Go.Proofs.YtbckcjjffbgidaaGreatDoor.W
