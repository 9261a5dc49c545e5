/- The walks. Written by our own program gen.py; Lean checks it. -/
import Derived.Test.YtbckcjjffbgidaaGreatDoorPlain
import Derived.Test.YtbckcjjffbgidaaGreatDoorEqs
import Derived.Test.YtbckcjjffbgidaaGreatDoorProg
import Derived.Test.YtbckcjjffbgidaaGreatDoorExt
import Derived.Test.YtbckcjjffbgidaaGreatDoorBuild
import Derived.Test.YtbckcjjffbgidaaGreatDoorClone
import Derived.Test.YtbckcjjffbgidaaGreatDoorWalk7
import Derived.Test.YtbckcjjffbgidaaGreatDoorWalk10
import Derived.Test.YtbckcjjffbgidaaGreatDoorWalk13
set_option linter.unusedVariables false
set_option maxRecDepth 100000
set_option maxHeartbeats 4000000
namespace Go.Proofs.YtbckcjjffbgidaaGreatDoor.W
open Go Go.RowKit Go.Proofs.Tryz
theorem law16_DiagramColumns_con (p_s : Sequence) (ao1 : Option Addr) (cap1 : Nat) (w : World) (H : Heap) (hH : Le H (hp w)) (h1 : SL H encStep ao1 p_s.steps) (hc1 : p_s.steps.length ≤ cap1) (hG : Glob H) (r : Bool) (hm : law16_DiagramColumns p_s = some r) :
  Con prog 5 [(.agg #[(.int .i64 p_s.actuators), (.slice ao1 p_s.steps.length cap1)])] w H (fun v _ => v = (.bool r)) := by
 unfold law16_DiagramColumns at hm
 refine con_of hH func5 rfl 113 ntmps5 rfl ?_
 refine WP.seq (WP.region ?_)
 refine ws rfl (os_box (cs := [(.int .i64 p_s.actuators), (.slice ao1 p_s.steps.length cap1)]) rfl rfl rfl (fun b1 => ?_))
 refine Va rfl (WL.nil (tn (WP.seq (WP.seq (WP.region (V rfl (ov_load_whole (i := 0) isAgg24 sizeOf24 rfl rfl rfl rfl) ?_))))))
 obtain ⟨r1, e1, hm⟩ := bind_some hm
 refine wo rfl (oq_con (r := (.bool r1)) call22 rfl rfl (fun w' s => ⟨_, (law16_right_con p_s ao1 cap1  w' H s.hold h1 hc1 hG r1 e1)⟩)) ?_
 refine V rfl (ov_not rfl rfl) (WL.nil (tn ?_))
 refine WP.cond rfl (fun hc2 => ?_) (fun hc2 => ?_)
 ·
  replace hm := ite_t hc2 hm
  refine WP.seq (WP.region ?_)
  obtain ⟨r2, e2, hm⟩ := bind_some hm
  refine wo rfl (oq_con (r := (.bool r2)) call12 rfl rfl (fun w' s => ⟨_, (law16_awake_con   w' H s.hold hG r2 e2)⟩)) ?_
  refine Va rfl (WL.nil (tn (WP.ret (then_ret ?_))))
  obtain rfl := Option.some.inj hm
  refine retQ_ret results5 (Res.tmp rfl Res.nil) rfl (fun w' s => ⟨s.below, ?_⟩)
  exact rfl
 replace hm := ite_f hc2 hm
 refine WP.skip (tn ?_)
 obtain ⟨k1, hk1, hm⟩ := joinK_some hm
 refine WP.seq_join (fun g' S' => Sub [(1, (pB b1 0)), (1000000007, (.bool false))] g' ∧ (∀ w', S' w' → St w H [.blk b1 24 [(.int .i64 p_s.actuators), (.slice ao1 p_s.steps.length cap1)]] H w') ∧ k1 = some r) ?_ ?_
 ·
  refine WP.seq (WP.region (V rfl (ov_fieldAddr underlying24 rfl rfl rfl sizeOf22 rfl rfl) (Vl 0 isAgg22 rfl (V rfl (ov_len_slice underlying22 rfl rfl) (Vm rfl (WL.nil (tn (WP.block ?_))))))))
  refine WP.loop (fun m1 g' S' => ∃ (i1 : Int), Sub [(1, (pB b1 0)), (18, (.slice ao1 p_s.steps.length cap1)), (19, (.int .i64 (p_s.steps.length : Int))), (20, (.int .i64 i1)), (1000000007, (.bool false))] g' ∧ (∀ w', S' w' → St w H [.blk b1 24 [(.int .i64 p_s.actuators), (.slice ao1 p_s.steps.length cap1)]] H w') ∧ law16_DiagramColumns_loop1 p_s k1 m1 i1 = some r) ((Int.toNat ((p_s.steps.length : Int) - 0) + 1)) ⟨0, (Sub.all rfl), fun w' s => s, hm⟩ ?_ ?_
  ·
   rintro g' S' ⟨_, _, _, hm⟩
   exact none_some hm
  rintro m1 g' S' ⟨i1, hsub1, hS1, hm⟩
  refine WP.sub hsub1 (WP.weaken hS1 ?_)
  rw [law16_DiagramColumns_loop1] at hm
  refine WP.seq (WP.region (V rfl (ov_lss rfl rfl rfl) (WL.nil (tn (WP.seq ?_)))))
  refine WP.cond rfl (fun hc3 => ?_) (fun hc3 => ?_)
  ·
   replace hm := ite_t hc3 hm
   refine WP.skip (tn ?_)
   obtain ⟨k2, hk2, hm⟩ := joinK_some hm
   refine WP.seq_join (fun g' S' => Sub [(1, (pB b1 0)), (18, (.slice ao1 p_s.steps.length cap1)), (19, (.int .i64 (p_s.steps.length : Int))), (20, (.int .i64 i1)), (1000000007, (.bool false))] g' ∧ (∀ w', S' w' → St w H [.blk b1 24 [(.int .i64 p_s.actuators), (.slice ao1 p_s.steps.length cap1)]] H w') ∧ k2 = some r) ?_ ?_
   ·
    refine WP.block (WP.seq (WP.region (Vm rfl ?_)))
    obtain ⟨x1, e3, hm⟩ := bind_some hm
    obtain ⟨h3, h4, h5, cs1, h6, h7⟩ := h1.get e3 (by decide)
    obtain ⟨ao2, cap2, rfl, h2, hc4⟩ := h6
    refine V rfl (ov_indexAddr underlying22 sizeOf45 rfl rfl rfl h3 h4 h5) (V rfl (ov_load_elems (vs := [(.slice ao2 x1.strokes.length cap2), (.int .i64 x1.wait)]) isAgg45 sizeOf45 rfl rfl rfl h7 h5) ?_)
    refine ws rfl (os_alloc (cs := [(.slice none 0 0), (.int .i64 0)]) zeroValue45 rfl rfl (fun b2 => ?_))
    refine Va rfl ?_
    refine ws0 rfl (os_store (i := 0) (vs := [(.slice ao2 x1.strokes.length cap2), (.int .i64 x1.wait)]) (cs' := [(.slice ao2 x1.strokes.length cap2), (.int .i64 x1.wait)]) sizeOf45 rfl rfl rfl rfl rfl rfl rfl rfl rfl ?_)
    refine WL.nil (tn (WP.seq (WP.region (V rfl (ov_load_whole (i := 1) isAgg24 sizeOf24 rfl rfl rfl rfl) (Vm rfl ?_)))))
    obtain ⟨r3, e4, hm⟩ := bind_some hm
    refine wo rfl (oq_con (r := (.tuple #[(mkS r3.1), (.int .i64 r3.2)])) call15 rfl rfl (fun w' s => ⟨_, (diagram_Column_con p_s i1 ao1 cap1  w' H s.hold h1 hc1 hG r3 e4)⟩)) ?_
    refine Vm rfl (Ve rfl (Ve rfl (Va rfl (Va rfl (WL.nil (tn (WP.seq (WP.seq ?_))))))))
    refine WP.region_draws (by kernel_rfl) (by kernel_rfl) (fun _ s => s.drew) ?_
    refine qf rfl (ov_move rfl rfl) ?_
    refine qf rfl (ov_neq rfl rfl rfl) ?_
    refine qf rfl (ov_move rfl rfl) ?_
    refine QL.part_bool 6 39 (x := ((r3.2 != 0) || ((r3.1.length : Int) != p_s.actuators))) ?_ ?_
    ·
     rcases Bool.eq_false_or_eq_true (r3.2 != 0) with hc5 | hc5
     ·
      refine QL.idle (Idle.no rfl rfl rfl hc5) rfl rfl ?_
      refine QL.idle (Idle.no rfl rfl rfl hc5) rfl rfl ?_
      refine QL.idle (Idle.no rfl rfl rfl hc5) rfl rfl ?_
      refine QL.idle (Idle.no rfl rfl rfl hc5) rfl rfl ?_
      refine QL.idle (Idle.no rfl rfl rfl hc5) rfl rfl ?_
      refine qf rfl (ov_pick_true rfl (guard_eq rfl hc5) rfl) ?_
      exact QL.nil (Sub.cons' rfl (congrArg Value.bool (orT hc5)) (Sub.dropn 6 rfl))
     refine qy hc5 rfl (ov_move rfl rfl) ?_
     refine qy hc5 rfl (ov_len_string underlying9 rfl rfl) ?_
     refine qy hc5 rfl (ov_fieldAddr underlying24 rfl rfl rfl sizeOf3 rfl rfl) ?_
     refine qy hc5 rfl (ov_load_box (i := 1) isAgg3 rfl rfl rfl rfl) ?_
     refine qy hc5 rfl (ov_neq rfl rfl rfl) ?_
     refine qf rfl (ov_pick_false rfl (guard_eq rfl hc5) rfl) ?_
     exact QL.nil (Sub.cons' rfl (congrArg Value.bool (orF hc5)) (Sub.dropn 6 rfl))
    refine qf rfl (ov_move rfl rfl) ?_
    obtain ⟨c1, e5, hm⟩ := bind_some hm
    refine QL.part_bool 10 50 (x := c1) ?_ ?_
    ·
     rcases Bool.eq_false_or_eq_true ((r3.2 != 0) || ((r3.1.length : Int) != p_s.actuators)) with hc6 | hc6
     ·
      replace hm := ite_t hc6 e5
      refine QL.idle (Idle.no rfl rfl rfl hc6) rfl rfl ?_
      refine QL.idle (Idle.no rfl rfl rfl hc6) rfl rfl ?_
      refine QL.idle (Idle.no rfl rfl rfl hc6) rfl rfl ?_
      refine QL.idle (Idle.no rfl rfl rfl hc6) rfl rfl ?_
      refine QL.idle (Idle.no rfl rfl rfl hc6) rfl rfl ?_
      refine QL.idle (Idle.no rfl rfl rfl hc6) rfl rfl ?_
      refine QL.idle (Idle.no rfl rfl rfl hc6) rfl rfl ?_
      refine QL.idle (Idle.no rfl rfl rfl hc6) rfl rfl ?_
      refine QL.idle (Idle.no rfl rfl rfl hc6) rfl rfl ?_
      refine qf rfl (ov_pick_true rfl (guard_eq rfl hc6) rfl) ?_
      exact QL.nil (Sub.cons' rfl (congrArg Value.bool (Option.some.inj hm)) (Sub.dropn 10 rfl))
     replace hm := ite_f hc6 e5
     refine qy hc6 rfl (ov_move rfl rfl) ?_
     obtain ⟨r4, e6, hm⟩ := bind_some hm
     refine QL.quiet (Runs.yes rfl rfl rfl hc6) rfl rfl (oq_con (r := (.int .i64 r4)) call23 rfl rfl (fun w' s => ⟨_, (countS_con r3.1 [47]  w' H s.hold hG r4 e6)⟩)) ?_
     refine qy hc6 rfl (ov_move rfl rfl) ?_
     obtain ⟨r5, e7, hm⟩ := bind_some hm
     refine QL.quiet (Runs.yes rfl rfl rfl hc6) rfl rfl (oq_con (r := (.int .i64 r5)) call23 rfl rfl (fun w' s => ⟨_, (countS_con r3.1 [92]  w' H s.hold hG r5 e7)⟩)) ?_
     refine qy hc6 rfl (ov_add rfl rfl rfl) ?_
     refine qy hc6 rfl (ov_fieldAddr underlying45 rfl rfl rfl sizeOf43 rfl rfl) ?_
     refine qy hc6 rfl (ov_load_box (i := 0) isAgg43 rfl rfl rfl rfl) ?_
     refine qy hc6 rfl (ov_len_slice underlying43 rfl rfl) ?_
     refine qy hc6 rfl (ov_neq rfl rfl rfl) ?_
     refine qf rfl (ov_pick_false rfl (guard_eq rfl hc6) rfl) ?_
     exact QL.nil (Sub.cons' rfl (congrArg Value.bool (Option.some.inj hm)) (Sub.dropn 10 rfl))
    refine QL.nil ?_
    refine tn ?_
    refine WP.cond rfl (fun hc7 => ?_) (fun hc7 => ?_)
    ·
     replace hm := ite_t hc7 hm
     refine WP.seq (WP.region (Va rfl (WL.nil (tn (WP.ret (then_ret (block_ret (then_ret (then_ret (block_ret (then_ret ?_)))))))))))
     obtain rfl := Option.some.inj hm
     refine retQ_ret results5 (Res.tmp rfl Res.nil) rfl (fun w' s => ⟨s.below, ?_⟩)
     exact rfl
    replace hm := ite_f hc7 hm
    refine WP.skip (tn (WP.seq (WP.region (V rfl (ov_fieldAddr underlying45 rfl rfl rfl sizeOf43 rfl rfl) (Vl 0 isAgg43 rfl (V rfl (ov_len_slice underlying43 rfl rfl) (Vm rfl (WL.nil (tn (WP.block ?_))))))))))
    refine WP.loop (fun m2 g' S' => ∃ (i2 : Int), Sub [(1, (pB b1 0)), (5, (mkS r3.1)), (18, (.slice ao1 p_s.steps.length cap1)), (19, (.int .i64 (p_s.steps.length : Int))), (20, (.int .i64 i1)), (52, (.slice ao2 x1.strokes.length cap2)), (53, (.int .i64 (x1.strokes.length : Int))), (54, (.int .i64 i2)), (1000000007, (.bool false))] g' ∧ (∀ w', S' w' → St w H [.blk b1 24 [(.int .i64 p_s.actuators), (.slice ao1 p_s.steps.length cap1)]] H w') ∧ law16_DiagramColumns_loop2 k2 x1 r3 m2 i2 = some r) ((Int.toNat ((x1.strokes.length : Int) - 0) + 1)) ⟨0, (Sub.all rfl), fun w' s => (s.select [1] (by decide) rfl), hm⟩ ?_ ?_
    ·
     rintro g' S' ⟨_, _, _, hm⟩
     exact none_some hm
    rintro m2 g' S' ⟨i2, hsub2, hS2, hm⟩
    refine WP.sub hsub2 (WP.weaken hS2 ?_)
    rw [law16_DiagramColumns_loop2] at hm
    refine WP.seq (WP.region (V rfl (ov_lss rfl rfl rfl) (WL.nil (tn (WP.seq ?_)))))
    refine WP.cond rfl (fun hc8 => ?_) (fun hc8 => ?_)
    ·
     replace hm := ite_t hc8 hm
     refine WP.skip (tn (WP.seq (WP.block (WP.seq (WP.region ?_)))))
     obtain ⟨x2, e8, hm⟩ := bind_some hm
     obtain ⟨h8, h9, h10, cs2, h11, h12⟩ := h2.get e8 (by decide)
     obtain rfl : cs2 = [(.int .i64 x2.actuator), (.bool x2.out)] := h11
     refine V rfl (ov_indexAddr underlying43 sizeOf48 rfl rfl rfl h8 h9 h10) (V rfl (ov_load_elems (vs := [(.int .i64 x2.actuator), (.bool x2.out)]) isAgg48 sizeOf48 rfl rfl rfl h12 h10) ?_)
     refine ws rfl (os_alloc (cs := [(.int .i64 0), (.bool false)]) zeroValue48 rfl rfl (fun b3 => ?_))
     refine ws0 rfl (os_store (i := 0) (vs := [(.int .i64 x2.actuator), (.bool x2.out)]) (cs' := [(.int .i64 x2.actuator), (.bool x2.out)]) sizeOf48 rfl rfl rfl rfl rfl rfl rfl rfl rfl ?_)
     refine WL.nil (tn (WP.seq ?_))
     refine WP.region_draws (by kernel_rfl) (by kernel_rfl) (fun _ s => s.drew) ?_
     refine qf rfl (ov_move rfl rfl) ?_
     refine qf rfl (ov_fieldAddr underlying48 rfl rfl rfl sizeOf3 rfl rfl) ?_
     refine qf rfl (ov_load_box (i := 0) isAgg3 rfl rfl rfl rfl) ?_
     obtain ⟨b4, e9, hm⟩ := bind_some hm
     refine qf rfl (ov_index_string underlying9 rfl rfl rfl e9) ?_
     refine qf rfl (ov_eql rfl rfl rfl) ?_
     refine qf rfl (ov_fieldAddr underlying48 rfl rfl rfl sizeOf4 rfl rfl) ?_
     refine qf rfl (ov_load_box (i := 0) isAgg4 rfl rfl rfl rfl) ?_
     refine qf rfl (ov_bneq underlying4 rfl rfl rfl) ?_
     refine qf rfl (ov_move rfl rfl) ?_
     obtain ⟨c2, e10, hm⟩ := bind_some hm
     refine QL.part_bool 9 75 (x := c2) ?_ ?_
     ·
      rcases Bool.eq_false_or_eq_true (!(((b4.toNat : Int) == 47) == x2.out)) with hc9 | hc9
      ·
       replace hm := ite_t hc9 e10
       refine QL.idle (Idle.no rfl rfl rfl hc9) rfl rfl ?_
       refine QL.idle (Idle.no rfl rfl rfl hc9) rfl rfl ?_
       refine QL.idle (Idle.no rfl rfl rfl hc9) rfl rfl ?_
       refine QL.idle (Idle.no rfl rfl rfl hc9) rfl rfl ?_
       refine QL.idle (Idle.no rfl rfl rfl hc9) rfl rfl ?_
       refine QL.idle (Idle.no rfl rfl rfl hc9) rfl rfl ?_
       refine QL.idle (Idle.no rfl rfl rfl hc9) rfl rfl ?_
       refine QL.idle (Idle.no rfl rfl rfl hc9) rfl rfl ?_
       refine qf rfl (ov_pick_true rfl (guard_eq rfl hc9) rfl) ?_
       exact QL.nil (Sub.cons' rfl (congrArg Value.bool (Option.some.inj hm)) (Sub.dropn 9 rfl))
      replace hm := ite_f hc9 e10
      refine qy hc9 rfl (ov_move rfl rfl) ?_
      refine qy hc9 rfl (ov_fieldAddr underlying48 rfl rfl rfl sizeOf3 rfl rfl) ?_
      refine qy hc9 rfl (ov_load_box (i := 0) isAgg3 rfl rfl rfl rfl) ?_
      obtain ⟨b5, e11, hm⟩ := bind_some hm
      refine qy hc9 rfl (ov_index_string underlying9 rfl rfl rfl e11) ?_
      refine qy hc9 rfl (ov_eql rfl rfl rfl) ?_
      refine qy hc9 rfl (ov_fieldAddr underlying48 rfl rfl rfl sizeOf4 rfl rfl) ?_
      refine qy hc9 rfl (ov_load_box (i := 0) isAgg4 rfl rfl rfl rfl) ?_
      refine qy hc9 rfl (ov_beql underlying4 rfl rfl rfl) ?_
      refine qf rfl (ov_pick_false rfl (guard_eq rfl hc9) rfl) ?_
      exact QL.nil (Sub.cons' rfl (congrArg Value.bool (Option.some.inj hm)) (Sub.dropn 9 rfl))
     refine QL.nil ?_
     refine tn ?_
     refine WP.cond rfl (fun hc10 => ?_) (fun hc10 => ?_)
     ·
      replace hm := ite_t hc10 hm
      refine WP.seq (WP.region (Va rfl (WL.nil (tn (WP.ret (block_ret (then_ret (then_ret (block_ret (block_ret (then_ret (then_ret (block_ret ?_)))))))))))))
      refine then_ret ?_
      obtain rfl := Option.some.inj hm
      refine retQ_ret results5 (Res.tmp rfl Res.nil) rfl (fun w' s => ⟨s.below, ?_⟩)
      exact rfl
     replace hm := ite_f hc10 hm
     refine WP.skip (bn (tn (WP.region (V rfl (ov_add rfl rfl rfl) (Vm rfl (WL.nil (tn ?_)))))))
     exact ⟨(IntKind.wrap .i64 (i2 + 1)), (Sub.all rfl), fun w' s => (s.select [1] (by decide) rfl), hm⟩
    replace hm := ite_f hc8 hm
    refine WP.exit (then_exit (then_exit (block_here (bn (tn ?_)))))
    exact ⟨(Sub.all rfl), fun w' s => s, hm⟩
   rintro g' S' ⟨hsub3, hS3, hm⟩
   refine WP.sub hsub3 (WP.weaken hS3 ?_)
   replace hm := hk2.symm.trans hm
   refine WP.region (V rfl (ov_add rfl rfl rfl) (Vm rfl (WL.nil (tn ?_))))
   exact ⟨(IntKind.wrap .i64 (i1 + 1)), (Sub.all rfl), fun w' s => s, hm⟩
  replace hm := ite_f hc3 hm
  refine WP.exit (then_exit (then_exit (block_here (tn ?_))))
  exact ⟨(Sub.all rfl), fun w' s => s, hm⟩
 rintro g' S' ⟨hsub4, hS4, hm⟩
 refine WP.sub hsub4 (WP.weaken hS4 ?_)
 replace hm := hk1.symm.trans hm
 refine WP.seq (WP.region (V rfl (ov_load_whole (i := 0) isAgg24 sizeOf24 rfl rfl rfl rfl) ?_))
 obtain ⟨r6, e12, hm⟩ := bind_some hm
 refine ws rfl (os_con call13 rfl rfl (fun w' s => (diagram_Draw_con p_s ao1 cap1  w' H s.hold h1 hc1 hG r6 e12)) (fun rr1 H1 hle1 hR1 => ?_))
 replace hG := hG.mono hle1
 obtain ⟨ao3, cap3, rfl, h13, hc11⟩ := hR1
 refine Vm rfl (Ve rfl (Ve rfl (Va rfl (Va rfl (WL.nil (tn (WP.seq (WP.seq (WP.region (Vm rfl (V rfl (ov_neq rfl rfl rfl) (Vm rfl ?_))))))))))))
 refine WL.cut_bool 6 91 (x := ((r6.2 != 0) || (decide ((r6.1.length : Int) < p_s.actuators)))) ?_ ?_
 ·
  rcases Bool.eq_false_or_eq_true (r6.2 != 0) with hc12 | hc12
  ·
   refine Vi rfl (Idle.no rfl rfl rfl hc12) (Vi rfl (Idle.no rfl rfl rfl hc12) (Vi rfl (Idle.no rfl rfl rfl hc12) (Vi rfl (Idle.no rfl rfl rfl hc12) (Vi rfl (Idle.no rfl rfl rfl hc12) (V rfl (ov_pick_true rfl (guard_eq rfl hc12) rfl) ?_)))))
   exact WL.nil ⟨Sub.cons' rfl (congrArg Value.bool (orT hc12)) (Sub.dropn 6 rfl), fun _ s => s⟩
  refine wy hc12 rfl (ov_move rfl rfl) ?_
  refine wy hc12 rfl (ov_len_slice underlying27 rfl rfl) ?_
  refine wy hc12 rfl (ov_fieldAddr underlying24 rfl rfl rfl sizeOf3 rfl rfl) ?_
  refine wy hc12 rfl (ov_load_box (i := 0) isAgg3 rfl rfl rfl rfl) ?_
  refine wy hc12 rfl (ov_lss rfl rfl rfl) ?_
  refine V rfl (ov_pick_false rfl (guard_eq rfl hc12) rfl) ?_
  exact WL.nil ⟨Sub.cons' rfl (congrArg Value.bool (orF hc12)) (Sub.dropn 6 rfl), fun _ s => s⟩
 refine WL.nil (tn ?_)
 refine WP.cond rfl (fun hc13 => ?_) (fun hc13 => ?_)
 ·
  replace hm := ite_t hc13 hm
  refine WP.seq (WP.region (Va rfl (WL.nil (tn (WP.ret (then_ret ?_))))))
  obtain rfl := Option.some.inj hm
  refine retQ_ret results5 (Res.tmp rfl Res.nil) rfl (fun w' s => ⟨s.below, ?_⟩)
  exact rfl
 replace hm := ite_f hc13 hm
 refine WP.skip (tn ?_)
 obtain ⟨k3, hk3, hm⟩ := joinK_some hm
 refine WP.seq_join (fun g' S' => Sub [(1000000007, (.bool false))] g' ∧ (∀ w', S' w' → St w H [] H1 w') ∧ k3 = some r) ?_ ?_
 ·
  refine WP.seq (WP.region (Vm rfl (V rfl (ov_fieldAddr underlying24 rfl rfl rfl sizeOf3 rfl rfl) (Vl 0 isAgg3 rfl ?_))))
  obtain ⟨l1, e13, hm⟩ := bind_some hm
  obtain ⟨ao4, cap4, h14, h15, hc14⟩ := sl_h h13 hc11 e13
  refine V rfl (h14 underlying27 sizeOf9 rfl rfl rfl ) (V rfl (ov_len_slice underlying27 rfl rfl) (Vm rfl (WL.nil (tn (WP.block ?_)))))
  refine WP.loop (fun m3 g' S' => ∃ (i3 : Int), Sub [(95, (.slice ao4 l1.length cap4)), (96, (.int .i64 (l1.length : Int))), (97, (.int .i64 i3)), (1000000007, (.bool false))] g' ∧ (∀ w', S' w' → St w H [] H1 w') ∧ law16_DiagramColumns_loop3 k3 l1 m3 i3 = some r) ((Int.toNat ((l1.length : Int) - 0) + 1)) ⟨0, (Sub.all rfl), fun w' s => (s.select [] (by decide) rfl), hm⟩ ?_ ?_
  ·
   rintro g' S' ⟨_, _, _, hm⟩
   exact none_some hm
  rintro m3 g' S' ⟨i3, hsub5, hS5, hm⟩
  refine WP.sub hsub5 (WP.weaken hS5 ?_)
  rw [law16_DiagramColumns_loop3] at hm
  refine WP.seq (WP.region (V rfl (ov_lss rfl rfl rfl) (WL.nil (tn (WP.seq ?_)))))
  refine WP.cond rfl (fun hc15 => ?_) (fun hc15 => ?_)
  ·
   replace hm := ite_t hc15 hm
   refine WP.skip (tn (WP.seq (WP.block (WP.seq (WP.region ?_)))))
   obtain ⟨x3, e14, hm⟩ := bind_some hm
   obtain ⟨h16, h17, h18, cs3, h19, h20⟩ := h15.get e14 (by decide)
   obtain rfl : cs3 = [(mkS x3)] := h19
   refine V rfl (ov_indexAddr underlying27 sizeOf9 rfl rfl rfl h16 h17 h18) (V rfl (ov_load_elem (v := (mkS x3)) isAgg9 rfl rfl h20) (Va rfl (WL.nil (tn (WP.seq (WP.region (Vm rfl ?_)))))))
   obtain ⟨r7, e15, hm⟩ := bind_some hm
   refine wo rfl (oq_con (r := (.int .i64 r7)) call23 rfl rfl (fun w' s => ⟨_, (countS_con x3 [47]  w' H1 s.hold hG r7 e15)⟩)) ?_
   refine Vm rfl ?_
   obtain ⟨r8, e16, hm⟩ := bind_some hm
   refine wo rfl (oq_con (r := (.int .i64 r8)) call23 rfl rfl (fun w' s => ⟨_, (countS_con x3 [92]  w' H1 s.hold hG r8 e16)⟩)) ?_
   refine V rfl (ov_neq rfl rfl rfl) (Vm rfl ?_)
   obtain ⟨c3, e17, hm⟩ := bind_some hm
   refine WL.cut_bool 4 110 (x := c3) ?_ ?_
   ·
    rcases Bool.eq_false_or_eq_true (r7 != r8) with hc16 | hc16
    ·
     replace hm := ite_t hc16 e17
     refine Vi rfl (Idle.no rfl rfl rfl hc16) (Vi rfl (Idle.no rfl rfl rfl hc16) (Vi rfl (Idle.no rfl rfl rfl hc16) (V rfl (ov_pick_true rfl (guard_eq rfl hc16) rfl) ?_)))
     exact WL.nil ⟨Sub.cons' rfl (congrArg Value.bool (Option.some.inj hm)) (Sub.dropn 4 rfl), fun _ s => s⟩
    replace hm := ite_f hc16 e17
    refine wy hc16 rfl (ov_move rfl rfl) ?_
    obtain ⟨r9, e18, hm⟩ := bind_some hm
    refine WL.quiet (Runs.yes rfl rfl rfl hc16) rfl rfl (oq_con (r := (.int .i64 r9)) call23 rfl rfl (fun w' s => ⟨_, (countS_con x3 [47]  w' H1 s.hold hG r9 e18)⟩)) ?_
    refine wy hc16 rfl (ov_eql rfl rfl rfl) ?_
    refine V rfl (ov_pick_false rfl (guard_eq rfl hc16) rfl) ?_
    exact WL.nil ⟨Sub.cons' rfl (congrArg Value.bool (Option.some.inj hm)) (Sub.dropn 4 rfl), fun _ s => s⟩
   refine WL.nil (tn ?_)
   refine WP.cond rfl (fun hc17 => ?_) (fun hc17 => ?_)
   ·
    replace hm := ite_t hc17 hm
    refine WP.seq (WP.region (Va rfl (WL.nil (tn (WP.ret (block_ret (then_ret (then_ret (block_ret (then_ret ?_))))))))))
    obtain rfl := Option.some.inj hm
    refine retQ_ret results5 (Res.tmp rfl Res.nil) rfl (fun w' s => ⟨s.below, ?_⟩)
    exact rfl
   replace hm := ite_f hc17 hm
   refine WP.skip (bn (tn (WP.region (V rfl (ov_add rfl rfl rfl) (Vm rfl (WL.nil (tn ?_)))))))
   exact ⟨(IntKind.wrap .i64 (i3 + 1)), (Sub.all rfl), fun w' s => s, hm⟩
  replace hm := ite_f hc15 hm
  refine WP.exit (then_exit (then_exit (block_here (tn ?_))))
  exact ⟨(Sub.all rfl), fun w' s => s, hm⟩
 rintro g' S' ⟨hsub6, hS6, hm⟩
 refine WP.sub hsub6 (WP.weaken hS6 ?_)
 replace hm := hk3.symm.trans hm
 refine WP.seq (WP.region ?_)
 obtain ⟨r10, e19, hm⟩ := bind_some hm
 refine wo rfl (oq_con (r := (.bool r10)) call12 rfl rfl (fun w' s => ⟨_, (law16_awake_con   w' H1 s.hold hG r10 e19)⟩)) ?_
 refine Va rfl (WL.nil (tn (WP.ret ?_)))
 obtain rfl := Option.some.inj hm
 refine retQ_ret results5 (Res.tmp rfl Res.nil) rfl (fun w' s => ⟨s.below, ?_⟩)
 exact rfl
end Go.Proofs.YtbckcjjffbgidaaGreatDoor.W
