import Derived.Test.YtkgijoddkibapaaGreatDoorPlain
import Derived.Test.YtkgijoddkibapaaGreatDoorEqs
import Derived.Test.YtkgijoddkibapaaGreatDoorProg
import Derived.Test.YtkgijoddkibapaaGreatDoorExt
import Derived.Test.YtkgijoddkibapaaGreatDoorBuild
import Derived.Test.YtkgijoddkibapaaGreatDoorClone
set_option linter.unusedVariables false
set_option maxRecDepth 100000
set_option maxHeartbeats 4000000
namespace Go.Proofs.YtkgijoddkibapaaGreatDoor.W
open Go Go.RowKit Go.Proofs.Tryz
theorem diagram_index_con (p_out : Bool) (w : World) (H : Heap) (hH : Le H (hp w)) (hG : Glob H) (r : Int) (hm : diagram_index p_out = some r) :
  Con prog 111 [(.bool p_out)] w H (fun v _ => v = (.int .i64 r)) := by
 unfold diagram_index at hm
 refine con_of hH func111 rfl 4 ntmps111 rfl ?_
 refine WP.seq (WP.region (Va rfl (WL.nil (tn (WP.seq (WP.seq (WP.region (Vm rfl (WL.nil (tn ?_))))))))))
 refine WP.cond rfl (fun hc1 => ?_) (fun hc1 => ?_)
 ·
  replace hm := ite_t hc1 hm
  refine WP.seq (WP.region (Va rfl (WL.nil (tn (WP.ret (then_ret ?_))))))
  obtain rfl := Option.some.inj hm
  refine retQ_ret results111 (Res.tmp rfl Res.nil) rfl (fun w' s => ⟨s.below, ?_⟩)
  exact rfl
 replace hm := ite_f hc1 hm
 refine WP.skip (tn (WP.seq (WP.region (Va rfl (WL.nil (tn (WP.ret ?_)))))))
 obtain rfl := Option.some.inj hm
 refine retQ_ret results111 (Res.tmp rfl Res.nil) rfl (fun w' s => ⟨s.below, ?_⟩)
 exact rfl
theorem ref14_Few_con (p_s : Sequence) (ao1 : Option Addr) (cap1 : Nat) (w : World) (H : Heap) (hH : Le H (hp w)) (h1 : SL H encStep ao1 p_s.steps) (hc1 : p_s.steps.length ≤ cap1) (hG : Glob H) (r : Bool) (hm : ref14_Few p_s = some r) :
  Con prog 12 [(.agg #[(.int .i64 p_s.actuators), (.slice ao1 p_s.steps.length cap1)])] w H (fun v _ => v = (.bool r)) := by
 unfold ref14_Few at hm
 refine con_of hH func12 rfl 23 ntmps12 rfl ?_
 refine WP.seq (WP.region ?_)
 refine ws rfl (os_box (cs := [(.int .i64 p_s.actuators), (.slice ao1 p_s.steps.length cap1)]) rfl rfl rfl (fun b1 => ?_))
 refine Va rfl (WL.nil (tn (WP.seq (WP.seq (WP.region (V rfl (ov_fieldAddr underlying24 rfl rfl rfl sizeOf22 rfl rfl) (Vl 0 isAgg22 rfl (V rfl (ov_len_slice underlying22 rfl rfl) (V rfl (ov_gtr rfl rfl rfl) (WL.nil (tn ?_)))))))))))
 refine WP.cond rfl (fun hc2 => ?_) (fun hc2 => ?_)
 ·
  replace hm := ite_t hc2 hm
  refine WP.seq (WP.region (Va rfl (WL.nil (tn (WP.ret (then_ret ?_))))))
  obtain rfl := Option.some.inj hm
  refine retQ_ret results12 (Res.tmp rfl Res.nil) rfl (fun w' s => ⟨s.below, ?_⟩)
  exact rfl
 replace hm := ite_f hc2 hm
 refine WP.skip (tn ?_)
 obtain ⟨k1, hk1, hm⟩ := joinK_some hm
 refine WP.seq_join (fun g' S' => Sub [(1000000007, (.bool false))] g' ∧ (∀ w', S' w' → St w H [] H w') ∧ k1 = some r) ?_ ?_
 ·
  refine WP.seq (WP.region (Va rfl (WL.nil (tn (WP.block ?_)))))
  refine WP.loop (fun m1 g' S' => ∃ (i1 : Int), Sub [(1, (pB b1 0)), (3, (.int .i64 i1)), (1000000007, (.bool false))] g' ∧ (∀ w', S' w' → St w H [.blk b1 24 [(.int .i64 p_s.actuators), (.slice ao1 p_s.steps.length cap1)]] H w') ∧ ref14_Few_loop1 p_s k1 m1 i1 = some r) ((Int.toNat ((p_s.steps.length : Int) - 0) + 1)) ⟨0, (Sub.all rfl), fun w' s => s, hm⟩ ?_ ?_
  ·
   rintro g' S' ⟨_, _, _, hm⟩
   exact none_some hm
  rintro m1 g' S' ⟨i1, hsub1, hS1, hm⟩
  refine WP.sub hsub1 (WP.weaken hS1 ?_)
  rw [ref14_Few_loop1] at hm
  refine WP.seq (WP.seq (WP.region (Vm rfl (V rfl (ov_fieldAddr underlying24 rfl rfl rfl sizeOf22 rfl rfl) (Vl 0 isAgg22 rfl (V rfl (ov_len_slice underlying22 rfl rfl) (V rfl (ov_lss rfl rfl rfl) (WL.nil (tn ?_)))))))))
  refine WP.cond rfl (fun hc3 => ?_) (fun hc3 => ?_)
  ·
   replace hm := ite_t hc3 hm
   refine WP.skip (tn (WP.seq (WP.block (WP.seq (WP.region (V rfl (ov_fieldAddr underlying24 rfl rfl rfl sizeOf22 rfl rfl) (Vl 0 isAgg22 rfl (Vm rfl ?_))))))))
   obtain ⟨x1, e1, hm⟩ := bind_some hm
   obtain ⟨h3, h4, h5, cs1, h6, h7⟩ := h1.get e1 (by decide)
   obtain ⟨ao2, cap2, rfl, h2, hc4⟩ := h6
   refine V rfl (ov_indexAddr underlying22 sizeOf55 rfl rfl rfl h3 h4 h5) (V rfl (ov_fieldAddrE underlying55 rfl rfl rfl sizeOf53 rfl rfl) ?_)
   refine V rfl (ov_load_elem (v := (.slice ao2 x1.strokes.length cap2)) isAgg53 rfl rfl (h7.one (off := 0) rfl)) (V rfl (ov_len_slice underlying53 rfl rfl) (V rfl (ov_gtr rfl rfl rfl) (WL.nil (tn ?_))))
   refine WP.cond rfl (fun hc5 => ?_) (fun hc5 => ?_)
   ·
    replace hm := ite_t hc5 hm
    refine WP.seq (WP.region (Va rfl (WL.nil (tn (WP.ret (block_ret (then_ret (then_ret (block_ret (then_ret ?_))))))))))
    obtain rfl := Option.some.inj hm
    refine retQ_ret results12 (Res.tmp rfl Res.nil) rfl (fun w' s => ⟨s.below, ?_⟩)
    exact rfl
   replace hm := ite_f hc5 hm
   refine WP.skip (bn (tn (WP.region (Vm rfl (V rfl (ov_add rfl rfl rfl) (Va rfl (WL.nil (tn ?_))))))))
   exact ⟨(IntKind.wrap .i64 (i1 + 1)), (Sub.all rfl), fun w' s => s, hm⟩
  replace hm := ite_f hc3 hm
  refine WP.exit (then_exit (then_exit (block_here (tn ?_))))
  exact ⟨(Sub.all rfl), fun w' s => (s.select [] (by decide) rfl), hm⟩
 rintro g' S' ⟨hsub2, hS2, hm⟩
 refine WP.sub hsub2 (WP.weaken hS2 ?_)
 replace hm := hk1.symm.trans hm
 refine WP.seq (WP.region (Va rfl (WL.nil (tn (WP.ret ?_)))))
 obtain rfl := Option.some.inj hm
 refine retQ_ret results12 (Res.tmp rfl Res.nil) rfl (fun w' s => ⟨s.below, ?_⟩)
 exact rfl
theorem ref03_Time_con (p_n : Int) (w : World) (H : Heap) (hH : Le H (hp w)) (hG : Glob H) (r : Bool) (hm : ref03_Time p_n = some r) :
  Con prog 35 [(.int .i64 p_n)] w H (fun v _ => v = (.bool r)) := by
 unfold ref03_Time at hm
 refine con_of hH func35 rfl 9 ntmps35 rfl ?_
 refine WP.seq (WP.region (Va rfl (WL.nil (tn (WP.seq (WP.region (Vm rfl (V rfl (ov_geq rfl rfl rfl) (Vm rfl ?_)))))))))
 refine WL.cut_bool 3 8 (x := ((decide (p_n ≥ 0)) && (decide (p_n ≤ 1000000)))) ?_ ?_
 ·
  rcases Bool.eq_false_or_eq_true (decide (p_n ≥ 0)) with hc1 | hc1
  ·
   refine wy hc1 rfl (ov_move rfl rfl) ?_
   refine wy hc1 rfl (ov_leq rfl rfl rfl) ?_
   refine V rfl (ov_pick_true rfl (guard_eq rfl hc1) rfl) ?_
   exact WL.nil ⟨Sub.cons' rfl (congrArg Value.bool (andT hc1)) (Sub.dropn 3 rfl), fun _ s => s⟩
  refine Vi rfl (Idle.no rfl rfl rfl hc1) (Vi rfl (Idle.no rfl rfl rfl hc1) (V rfl (ov_pick_false rfl (guard_eq rfl hc1) rfl) ?_))
  exact WL.nil ⟨Sub.cons' rfl (congrArg Value.bool (andF hc1)) (Sub.dropn 3 rfl), fun _ s => s⟩
 refine Va rfl (WL.nil (tn (WP.ret ?_)))
 obtain rfl := Option.some.inj hm
 refine retQ_ret results35 (Res.tmp rfl Res.nil) rfl (fun w' s => ⟨s.below, ?_⟩)
 exact rfl
theorem ref13_Actuator_con (p_n : Int) (w : World) (H : Heap) (hH : Le H (hp w)) (hG : Glob H) (r : Bool) (hm : ref13_Actuator p_n = some r) :
  Con prog 93 [(.int .i64 p_n)] w H (fun v _ => v = (.bool r)) := by
 unfold ref13_Actuator at hm
 refine con_of hH func93 rfl 9 ntmps93 rfl ?_
 refine WP.seq (WP.region (Va rfl (WL.nil (tn (WP.seq (WP.region (Vm rfl (V rfl (ov_geq rfl rfl rfl) (Vm rfl ?_)))))))))
 refine WL.cut_bool 3 8 (x := ((decide (p_n ≥ 0)) && (decide (p_n < 6)))) ?_ ?_
 ·
  rcases Bool.eq_false_or_eq_true (decide (p_n ≥ 0)) with hc1 | hc1
  ·
   refine wy hc1 rfl (ov_move rfl rfl) ?_
   refine wy hc1 rfl (ov_lss rfl rfl rfl) ?_
   refine V rfl (ov_pick_true rfl (guard_eq rfl hc1) rfl) ?_
   exact WL.nil ⟨Sub.cons' rfl (congrArg Value.bool (andT hc1)) (Sub.dropn 3 rfl), fun _ s => s⟩
  refine Vi rfl (Idle.no rfl rfl rfl hc1) (Vi rfl (Idle.no rfl rfl rfl hc1) (V rfl (ov_pick_false rfl (guard_eq rfl hc1) rfl) ?_))
  exact WL.nil ⟨Sub.cons' rfl (congrArg Value.bool (andF hc1)) (Sub.dropn 3 rfl), fun _ s => s⟩
 refine Va rfl (WL.nil (tn (WP.ret ?_)))
 obtain rfl := Option.some.inj hm
 refine retQ_ret results93 (Res.tmp rfl Res.nil) rfl (fun w' s => ⟨s.below, ?_⟩)
 exact rfl
theorem ref13_CheckStep_con (p_x : Step) (ao1 : Option Addr) (cap1 : Nat) (w : World) (H : Heap) (hH : Le H (hp w)) (h1 : SL H encStroke ao1 p_x.strokes) (hc1 : p_x.strokes.length ≤ cap1) (hG : Glob H) (r : Int) (hm : ref13_CheckStep p_x = some r) :
  Con prog 57 [(.agg #[(.slice ao1 p_x.strokes.length cap1), (.int .i64 p_x.wait)])] w H (fun v _ => v = (.int .i64 r)) := by
 unfold ref13_CheckStep at hm
 refine con_of hH func57 rfl 67 ntmps57 rfl ?_
 refine WP.seq (WP.region ?_)
 refine ws rfl (os_box (cs := [(.slice ao1 p_x.strokes.length cap1), (.int .i64 p_x.wait)]) rfl rfl rfl (fun b1 => ?_))
 refine Va rfl (WL.nil (tn (WP.seq (WP.seq (WP.region (V rfl (ov_fieldAddr underlying55 rfl rfl rfl sizeOf53 rfl rfl) (Vl 0 isAgg53 rfl (V rfl (ov_len_slice underlying53 rfl rfl) (V rfl (ov_eql rfl rfl rfl) (WL.nil (tn ?_)))))))))))
 refine WP.cond rfl (fun hc2 => ?_) (fun hc2 => ?_)
 ·
  replace hm := ite_t hc2 hm
  refine WP.seq (WP.region (Va rfl (WL.nil (tn (WP.ret (then_ret ?_))))))
  obtain rfl := Option.some.inj hm
  refine retQ_ret results57 (Res.tmp rfl Res.nil) rfl (fun w' s => ⟨s.below, ?_⟩)
  exact rfl
 replace hm := ite_f hc2 hm
 refine WP.skip (tn (WP.seq (WP.seq (WP.region (V rfl (ov_fieldAddr underlying55 rfl rfl rfl sizeOf53 rfl rfl) (Vl 0 isAgg53 rfl (V rfl (ov_len_slice underlying53 rfl rfl) (V rfl (ov_gtr rfl rfl rfl) (WL.nil (tn ?_))))))))))
 refine WP.cond rfl (fun hc3 => ?_) (fun hc3 => ?_)
 ·
  replace hm := ite_t hc3 hm
  refine WP.seq (WP.region (Va rfl (WL.nil (tn (WP.ret (then_ret ?_))))))
  obtain rfl := Option.some.inj hm
  refine retQ_ret results57 (Res.tmp rfl Res.nil) rfl (fun w' s => ⟨s.below, ?_⟩)
  exact rfl
 replace hm := ite_f hc3 hm
 refine WP.skip (tn ?_)
 obtain ⟨k1, hk1, hm⟩ := joinK_some hm
 refine WP.seq_join (fun g' S' => Sub [(1, (pB b1 0)), (1000000007, (.bool false))] g' ∧ (∀ w', S' w' → St w H [.blk b1 55 [(.slice ao1 p_x.strokes.length cap1), (.int .i64 p_x.wait)]] H w') ∧ k1 = some r) ?_ ?_
 ·
  refine WP.seq (WP.region (Va rfl (WL.nil (tn (WP.block ?_)))))
  refine WP.loop (fun m1 g' S' => ∃ (i1 : Int), Sub [(1, (pB b1 0)), (3, (.int .i64 i1)), (1000000007, (.bool false))] g' ∧ (∀ w', S' w' → St w H [.blk b1 55 [(.slice ao1 p_x.strokes.length cap1), (.int .i64 p_x.wait)]] H w') ∧ ref13_CheckStep_loop1 p_x k1 m1 i1 = some r) ((Int.toNat ((p_x.strokes.length : Int) - 0) + 1)) ⟨0, (Sub.all rfl), fun w' s => s, hm⟩ ?_ ?_
  ·
   rintro g' S' ⟨_, _, _, hm⟩
   exact none_some hm
  rintro m1 g' S' ⟨i1, hsub1, hS1, hm⟩
  refine WP.sub hsub1 (WP.weaken hS1 ?_)
  rw [ref13_CheckStep_loop1] at hm
  refine WP.seq (WP.seq (WP.region (Vm rfl (V rfl (ov_fieldAddr underlying55 rfl rfl rfl sizeOf53 rfl rfl) (Vl 0 isAgg53 rfl (V rfl (ov_len_slice underlying53 rfl rfl) (V rfl (ov_lss rfl rfl rfl) (WL.nil (tn ?_)))))))))
  refine WP.cond rfl (fun hc4 => ?_) (fun hc4 => ?_)
  ·
   replace hm := ite_t hc4 hm
   refine WP.skip (tn (WP.seq (WP.block (WP.seq (WP.seq (WP.region (V rfl (ov_fieldAddr underlying55 rfl rfl rfl sizeOf53 rfl rfl) (Vl 0 isAgg53 rfl (Vm rfl ?_)))))))))
   obtain ⟨x1, e1, hm⟩ := bind_some hm
   obtain ⟨h2, h3, h4, cs1, h5, h6⟩ := h1.get e1 (by decide)
   obtain rfl : cs1 = [(.int .i64 x1.actuator), (.bool x1.out)] := h5
   refine V rfl (ov_indexAddr underlying53 sizeOf59 rfl rfl rfl h2 h3 h4) (V rfl (ov_fieldAddrE underlying59 rfl rfl rfl sizeOf3 rfl rfl) ?_)
   refine V rfl (ov_load_elem (v := (.int .i64 x1.actuator)) isAgg3 rfl rfl (h6.one (off := 0) rfl)) ?_
   obtain ⟨r1, e2, hm⟩ := bind_some hm
   refine wo rfl (oq_con (r := (.bool r1)) call93 rfl rfl (fun w' s => ⟨_, (ref13_Actuator_con x1.actuator  w' H s.hold hG r1 e2)⟩)) ?_
   refine V rfl (ov_not rfl rfl) (WL.nil (tn ?_))
   refine WP.cond rfl (fun hc5 => ?_) (fun hc5 => ?_)
   ·
    replace hm := ite_t hc5 hm
    refine WP.seq (WP.region (Va rfl (WL.nil (tn (WP.ret (then_ret (block_ret (then_ret (then_ret (block_ret (then_ret ?_)))))))))))
    obtain rfl := Option.some.inj hm
    refine retQ_ret results57 (Res.tmp rfl Res.nil) rfl (fun w' s => ⟨s.below, ?_⟩)
    exact rfl
   replace hm := ite_f hc5 hm
   refine WP.skip (tn (WP.seq (WP.seq ?_)))
   refine WP.region_draws (by kernel_rfl) (by kernel_rfl) (fun _ s => s.drew) ?_
   refine qf rfl (ov_move rfl rfl) ?_
   refine qf rfl (ov_gtr rfl rfl rfl) ?_
   refine qf rfl (ov_move rfl rfl) ?_
   obtain ⟨c1, e3, hm⟩ := bind_some hm
   refine QL.part_bool 15 44 (x := c1) ?_ ?_
   ·
    rcases Bool.eq_false_or_eq_true (decide (i1 > 0)) with hc6 | hc6
    ·
     replace hm := ite_t hc6 e3
     refine qy hc6 rfl (ov_fieldAddr underlying55 rfl rfl rfl sizeOf53 rfl rfl) ?_
     refine qy hc6 rfl (ov_load_box (i := 0) isAgg53 rfl rfl rfl rfl) ?_
     refine qy hc6 rfl (ov_move rfl rfl) ?_
     obtain ⟨x2, e4, hm⟩ := bind_some hm
     obtain ⟨h7, h8, h9, cs2, h10, h11⟩ := h1.get e4 (by decide)
     obtain rfl : cs2 = [(.int .i64 x2.actuator), (.bool x2.out)] := h10
     refine qy hc6 rfl (ov_indexAddr underlying53 sizeOf59 rfl rfl rfl h7 h8 h9) ?_
     refine qy hc6 rfl (ov_fieldAddrE underlying59 rfl rfl rfl sizeOf3 rfl rfl) ?_
     refine qy hc6 rfl (ov_load_elem (v := (.int .i64 x2.actuator)) isAgg3 rfl rfl (h11.one (off := 0) rfl)) ?_
     refine qy hc6 rfl (ov_fieldAddr underlying55 rfl rfl rfl sizeOf53 rfl rfl) ?_
     refine qy hc6 rfl (ov_load_box (i := 0) isAgg53 rfl rfl rfl rfl) ?_
     refine qy hc6 rfl (ov_move rfl rfl) ?_
     refine qy hc6 rfl (ov_sub rfl rfl rfl) ?_
     obtain ⟨x3, e5, hm⟩ := bind_some hm
     obtain ⟨h12, h13, h14, cs3, h15, h16⟩ := h1.get e5 (by decide)
     obtain rfl : cs3 = [(.int .i64 x3.actuator), (.bool x3.out)] := h15
     refine qy hc6 rfl (ov_indexAddr underlying53 sizeOf59 rfl rfl rfl h12 h13 h14) ?_
     refine qy hc6 rfl (ov_fieldAddrE underlying59 rfl rfl rfl sizeOf3 rfl rfl) ?_
     refine qy hc6 rfl (ov_load_elem (v := (.int .i64 x3.actuator)) isAgg3 rfl rfl (h16.one (off := 0) rfl)) ?_
     refine qy hc6 rfl (ov_eql rfl rfl rfl) ?_
     refine qf rfl (ov_pick_true rfl (guard_eq rfl hc6) rfl) ?_
     exact QL.nil (Sub.cons' rfl (congrArg Value.bool (Option.some.inj hm)) (Sub.dropn 15 rfl))
    replace hm := ite_f hc6 e3
    refine QL.idle (Idle.no rfl rfl rfl hc6) rfl rfl ?_
    refine QL.idle (Idle.no rfl rfl rfl hc6) rfl rfl ?_
    refine QL.idle (Idle.no rfl rfl rfl hc6) rfl rfl ?_
    refine QL.idle (Idle.no rfl rfl rfl hc6) rfl rfl ?_
    refine QL.idle (Idle.no rfl rfl rfl hc6) rfl rfl ?_
    refine QL.idle (Idle.no rfl rfl rfl hc6) rfl rfl ?_
    refine QL.idle (Idle.no rfl rfl rfl hc6) rfl rfl ?_
    refine QL.idle (Idle.no rfl rfl rfl hc6) rfl rfl ?_
    refine QL.idle (Idle.no rfl rfl rfl hc6) rfl rfl ?_
    refine QL.idle (Idle.no rfl rfl rfl hc6) rfl rfl ?_
    refine QL.idle (Idle.no rfl rfl rfl hc6) rfl rfl ?_
    refine QL.idle (Idle.no rfl rfl rfl hc6) rfl rfl ?_
    refine QL.idle (Idle.no rfl rfl rfl hc6) rfl rfl ?_
    refine QL.idle (Idle.no rfl rfl rfl hc6) rfl rfl ?_
    refine qf rfl (ov_pick_false rfl (guard_eq rfl hc6) rfl) ?_
    exact QL.nil (Sub.cons' rfl (congrArg Value.bool (Option.some.inj hm)) (Sub.dropn 15 rfl))
   refine QL.nil ?_
   refine tn ?_
   refine WP.cond rfl (fun hc7 => ?_) (fun hc7 => ?_)
   ·
    replace hm := ite_t hc7 hm
    refine WP.seq (WP.region (Va rfl (WL.nil (tn (WP.ret (then_ret (block_ret (then_ret (then_ret (block_ret (then_ret ?_)))))))))))
    obtain rfl := Option.some.inj hm
    refine retQ_ret results57 (Res.tmp rfl Res.nil) rfl (fun w' s => ⟨s.below, ?_⟩)
    exact rfl
   replace hm := ite_f hc7 hm
   refine WP.skip (tn (WP.seq ?_))
   refine WP.region_draws (by kernel_rfl) (by kernel_rfl) (fun _ s => s.drew) ?_
   refine qf rfl (ov_move rfl rfl) ?_
   refine qf rfl (ov_gtr rfl rfl rfl) ?_
   refine qf rfl (ov_move rfl rfl) ?_
   obtain ⟨c2, e6, hm⟩ := bind_some hm
   refine QL.part_bool 15 62 (x := c2) ?_ ?_
   ·
    rcases Bool.eq_false_or_eq_true (decide (i1 > 0)) with hc8 | hc8
    ·
     replace hm := ite_t hc8 e6
     refine qy hc8 rfl (ov_fieldAddr underlying55 rfl rfl rfl sizeOf53 rfl rfl) ?_
     refine qy hc8 rfl (ov_load_box (i := 0) isAgg53 rfl rfl rfl rfl) ?_
     refine qy hc8 rfl (ov_move rfl rfl) ?_
     obtain ⟨x4, e7, hm⟩ := bind_some hm
     obtain ⟨h17, h18, h19, cs4, h20, h21⟩ := h1.get e7 (by decide)
     obtain rfl : cs4 = [(.int .i64 x4.actuator), (.bool x4.out)] := h20
     refine qy hc8 rfl (ov_indexAddr underlying53 sizeOf59 rfl rfl rfl h17 h18 h19) ?_
     refine qy hc8 rfl (ov_fieldAddrE underlying59 rfl rfl rfl sizeOf3 rfl rfl) ?_
     refine qy hc8 rfl (ov_load_elem (v := (.int .i64 x4.actuator)) isAgg3 rfl rfl (h21.one (off := 0) rfl)) ?_
     refine qy hc8 rfl (ov_fieldAddr underlying55 rfl rfl rfl sizeOf53 rfl rfl) ?_
     refine qy hc8 rfl (ov_load_box (i := 0) isAgg53 rfl rfl rfl rfl) ?_
     refine qy hc8 rfl (ov_move rfl rfl) ?_
     refine qy hc8 rfl (ov_sub rfl rfl rfl) ?_
     obtain ⟨x5, e8, hm⟩ := bind_some hm
     obtain ⟨h22, h23, h24, cs5, h25, h26⟩ := h1.get e8 (by decide)
     obtain rfl : cs5 = [(.int .i64 x5.actuator), (.bool x5.out)] := h25
     refine qy hc8 rfl (ov_indexAddr underlying53 sizeOf59 rfl rfl rfl h22 h23 h24) ?_
     refine qy hc8 rfl (ov_fieldAddrE underlying59 rfl rfl rfl sizeOf3 rfl rfl) ?_
     refine qy hc8 rfl (ov_load_elem (v := (.int .i64 x5.actuator)) isAgg3 rfl rfl (h26.one (off := 0) rfl)) ?_
     refine qy hc8 rfl (ov_lss rfl rfl rfl) ?_
     refine qf rfl (ov_pick_true rfl (guard_eq rfl hc8) rfl) ?_
     exact QL.nil (Sub.cons' rfl (congrArg Value.bool (Option.some.inj hm)) (Sub.dropn 15 rfl))
    replace hm := ite_f hc8 e6
    refine QL.idle (Idle.no rfl rfl rfl hc8) rfl rfl ?_
    refine QL.idle (Idle.no rfl rfl rfl hc8) rfl rfl ?_
    refine QL.idle (Idle.no rfl rfl rfl hc8) rfl rfl ?_
    refine QL.idle (Idle.no rfl rfl rfl hc8) rfl rfl ?_
    refine QL.idle (Idle.no rfl rfl rfl hc8) rfl rfl ?_
    refine QL.idle (Idle.no rfl rfl rfl hc8) rfl rfl ?_
    refine QL.idle (Idle.no rfl rfl rfl hc8) rfl rfl ?_
    refine QL.idle (Idle.no rfl rfl rfl hc8) rfl rfl ?_
    refine QL.idle (Idle.no rfl rfl rfl hc8) rfl rfl ?_
    refine QL.idle (Idle.no rfl rfl rfl hc8) rfl rfl ?_
    refine QL.idle (Idle.no rfl rfl rfl hc8) rfl rfl ?_
    refine QL.idle (Idle.no rfl rfl rfl hc8) rfl rfl ?_
    refine QL.idle (Idle.no rfl rfl rfl hc8) rfl rfl ?_
    refine QL.idle (Idle.no rfl rfl rfl hc8) rfl rfl ?_
    refine qf rfl (ov_pick_false rfl (guard_eq rfl hc8) rfl) ?_
    exact QL.nil (Sub.cons' rfl (congrArg Value.bool (Option.some.inj hm)) (Sub.dropn 15 rfl))
   refine QL.nil ?_
   refine tn ?_
   refine WP.cond rfl (fun hc9 => ?_) (fun hc9 => ?_)
   ·
    replace hm := ite_t hc9 hm
    refine WP.seq (WP.region (Va rfl (WL.nil (tn (WP.ret (block_ret (then_ret (then_ret (block_ret (then_ret ?_))))))))))
    obtain rfl := Option.some.inj hm
    refine retQ_ret results57 (Res.tmp rfl Res.nil) rfl (fun w' s => ⟨s.below, ?_⟩)
    exact rfl
   replace hm := ite_f hc9 hm
   refine WP.skip (bn (tn (WP.region (Vm rfl (V rfl (ov_add rfl rfl rfl) (Va rfl (WL.nil (tn ?_))))))))
   exact ⟨(IntKind.wrap .i64 (i1 + 1)), (Sub.all rfl), fun w' s => s, hm⟩
  replace hm := ite_f hc4 hm
  refine WP.exit (then_exit (then_exit (block_here (tn ?_))))
  exact ⟨(Sub.all rfl), fun w' s => s, hm⟩
 rintro g' S' ⟨hsub2, hS2, hm⟩
 refine WP.sub hsub2 (WP.weaken hS2 ?_)
 replace hm := hk1.symm.trans hm
 refine WP.seq (WP.seq (WP.region (V rfl (ov_fieldAddr underlying55 rfl rfl rfl sizeOf3 rfl rfl) (Vl 0 isAgg3 rfl ?_))))
 obtain ⟨r2, e9, hm⟩ := bind_some hm
 refine wo rfl (oq_con (r := (.bool r2)) call35 rfl rfl (fun w' s => ⟨_, (ref03_Time_con p_x.wait  w' H s.hold hG r2 e9)⟩)) ?_
 refine V rfl (ov_not rfl rfl) (WL.nil (tn ?_))
 refine WP.cond rfl (fun hc10 => ?_) (fun hc10 => ?_)
 ·
  replace hm := ite_t hc10 hm
  refine WP.seq (WP.region (Va rfl (WL.nil (tn (WP.ret (then_ret ?_))))))
  obtain rfl := Option.some.inj hm
  refine retQ_ret results57 (Res.tmp rfl Res.nil) rfl (fun w' s => ⟨s.below, ?_⟩)
  exact rfl
 replace hm := ite_f hc10 hm
 refine WP.skip (tn (WP.seq (WP.region (Va rfl (WL.nil (tn (WP.ret ?_)))))))
 obtain rfl := Option.some.inj hm
 refine retQ_ret results57 (Res.tmp rfl Res.nil) rfl (fun w' s => ⟨s.below, ?_⟩)
 exact rfl
theorem ref13_Suits_con (p_x : Step) (p_ends : (List Bool)) (ao1 : Option Addr) (cap1 : Nat) (ao2 : Option Addr) (cap2 : Nat) (w : World) (H : Heap) (hH : Le H (hp w)) (h1 : SL H encStroke ao1 p_x.strokes) (hc1 : p_x.strokes.length ≤ cap1) (h2 : SL H encBool ao2 p_ends) (hc2 : p_ends.length ≤ cap2) (hG : Glob H) (r : Bool) (hm : ref13_Suits p_x p_ends = some r) :
  Con prog 58 [(.agg #[(.slice ao1 p_x.strokes.length cap1), (.int .i64 p_x.wait)]), (.slice ao2 p_ends.length cap2)] w H (fun v _ => v = (.bool r)) := by
 unfold ref13_Suits at hm
 refine con_of hH func58 rfl 34 ntmps58 rfl ?_
 refine WP.seq (WP.region ?_)
 refine ws rfl (os_box (cs := [(.slice ao1 p_x.strokes.length cap1), (.int .i64 p_x.wait)]) rfl rfl rfl (fun b1 => ?_))
 refine Va rfl (WL.nil (tn ?_))
 obtain ⟨k1, hk1, hm⟩ := joinK_some hm
 refine WP.seq_join (fun g' S' => Sub [(1000000007, (.bool false))] g' ∧ (∀ w', S' w' → St w H [] H w') ∧ k1 = some r) ?_ ?_
 ·
  refine WP.seq (WP.region (Va rfl (WL.nil (tn (WP.block ?_)))))
  refine WP.loop (fun m1 g' S' => ∃ (i1 : Int), Sub [(1, (.slice ao2 p_ends.length cap2)), (2, (pB b1 0)), (5, (.int .i64 i1)), (1000000007, (.bool false))] g' ∧ (∀ w', S' w' → St w H [.blk b1 55 [(.slice ao1 p_x.strokes.length cap1), (.int .i64 p_x.wait)]] H w') ∧ ref13_Suits_loop1 p_x p_ends k1 m1 i1 = some r) ((Int.toNat ((p_x.strokes.length : Int) - 0) + 1)) ⟨0, (Sub.all rfl), fun w' s => s, hm⟩ ?_ ?_
  ·
   rintro g' S' ⟨_, _, _, hm⟩
   exact none_some hm
  rintro m1 g' S' ⟨i1, hsub1, hS1, hm⟩
  refine WP.sub hsub1 (WP.weaken hS1 ?_)
  rw [ref13_Suits_loop1] at hm
  refine WP.seq (WP.seq (WP.region (Vm rfl (V rfl (ov_fieldAddr underlying55 rfl rfl rfl sizeOf53 rfl rfl) (Vl 0 isAgg53 rfl (V rfl (ov_len_slice underlying53 rfl rfl) (V rfl (ov_lss rfl rfl rfl) (WL.nil (tn ?_)))))))))
  refine WP.cond rfl (fun hc3 => ?_) (fun hc3 => ?_)
  ·
   replace hm := ite_t hc3 hm
   refine WP.skip (tn (WP.seq (WP.block (WP.seq (WP.region (V rfl (ov_fieldAddr underlying55 rfl rfl rfl sizeOf53 rfl rfl) (Vl 0 isAgg53 rfl (Vm rfl ?_))))))))
   obtain ⟨x1, e1, hm⟩ := bind_some hm
   obtain ⟨h3, h4, h5, cs1, h6, h7⟩ := h1.get e1 (by decide)
   obtain rfl : cs1 = [(.int .i64 x1.actuator), (.bool x1.out)] := h6
   refine V rfl (ov_indexAddr underlying53 sizeOf59 rfl rfl rfl h3 h4 h5) (V rfl (ov_load_elems (vs := [(.int .i64 x1.actuator), (.bool x1.out)]) isAgg59 sizeOf59 rfl rfl rfl h7 h5) ?_)
   refine ws rfl (os_alloc (cs := [(.int .i64 0), (.bool false)]) zeroValue59 rfl rfl (fun b2 => ?_))
   refine ws0 rfl (os_store (i := 0) (vs := [(.int .i64 x1.actuator), (.bool x1.out)]) (cs' := [(.int .i64 x1.actuator), (.bool x1.out)]) sizeOf59 rfl rfl rfl rfl rfl rfl rfl rfl rfl ?_)
   refine WL.nil (tn (WP.seq ?_))
   refine WP.region_draws (by kernel_rfl) (by kernel_rfl) (fun _ s => s.drew) ?_
   refine qf rfl (ov_fieldAddr underlying59 rfl rfl rfl sizeOf3 rfl rfl) ?_
   refine qf rfl (ov_load_box (i := 0) isAgg3 rfl rfl rfl rfl) ?_
   refine qf rfl (ov_move rfl rfl) ?_
   refine qf rfl (ov_len_slice underlying107 rfl rfl) ?_
   refine qf rfl (ov_geq rfl rfl rfl) ?_
   refine qf rfl (ov_move rfl rfl) ?_
   obtain ⟨c1, e2, hm⟩ := bind_some hm
   refine QL.part_bool 9 33 (x := c1) ?_ ?_
   ·
    rcases Bool.eq_false_or_eq_true (decide (x1.actuator ≥ (p_ends.length : Int))) with hc4 | hc4
    ·
     replace hm := ite_t hc4 e2
     refine QL.idle (Idle.no rfl rfl rfl hc4) rfl rfl ?_
     refine QL.idle (Idle.no rfl rfl rfl hc4) rfl rfl ?_
     refine QL.idle (Idle.no rfl rfl rfl hc4) rfl rfl ?_
     refine QL.idle (Idle.no rfl rfl rfl hc4) rfl rfl ?_
     refine QL.idle (Idle.no rfl rfl rfl hc4) rfl rfl ?_
     refine QL.idle (Idle.no rfl rfl rfl hc4) rfl rfl ?_
     refine QL.idle (Idle.no rfl rfl rfl hc4) rfl rfl ?_
     refine QL.idle (Idle.no rfl rfl rfl hc4) rfl rfl ?_
     refine qf rfl (ov_pick_true rfl (guard_eq rfl hc4) rfl) ?_
     exact QL.nil (Sub.cons' rfl (congrArg Value.bool (Option.some.inj hm)) (Sub.dropn 9 rfl))
    replace hm := ite_f hc4 e2
    refine qy hc4 rfl (ov_move rfl rfl) ?_
    refine qy hc4 rfl (ov_fieldAddr underlying59 rfl rfl rfl sizeOf3 rfl rfl) ?_
    refine qy hc4 rfl (ov_load_box (i := 0) isAgg3 rfl rfl rfl rfl) ?_
    obtain ⟨x2, e3, hm⟩ := bind_some hm
    obtain ⟨h8, h9, h10, cs2, h11, h12⟩ := h2.get e3 (by decide)
    obtain rfl : cs2 = [(.bool x2)] := h11
    refine qy hc4 rfl (ov_indexAddr underlying107 sizeOf4 rfl rfl rfl h8 h9 h10) ?_
    refine qy hc4 rfl (ov_load_elem (v := (.bool x2)) isAgg4 rfl rfl h12) ?_
    refine qy hc4 rfl (ov_fieldAddr underlying59 rfl rfl rfl sizeOf4 rfl rfl) ?_
    refine qy hc4 rfl (ov_load_box (i := 0) isAgg4 rfl rfl rfl rfl) ?_
    refine qy hc4 rfl (ov_beql underlying4 rfl rfl rfl) ?_
    refine qf rfl (ov_pick_false rfl (guard_eq rfl hc4) rfl) ?_
    exact QL.nil (Sub.cons' rfl (congrArg Value.bool (Option.some.inj hm)) (Sub.dropn 9 rfl))
   refine QL.nil ?_
   refine tn ?_
   refine WP.cond rfl (fun hc5 => ?_) (fun hc5 => ?_)
   ·
    replace hm := ite_t hc5 hm
    refine WP.seq (WP.region (Va rfl (WL.nil (tn (WP.ret (block_ret (then_ret (then_ret (block_ret (then_ret ?_))))))))))
    obtain rfl := Option.some.inj hm
    refine retQ_ret results58 (Res.tmp rfl Res.nil) rfl (fun w' s => ⟨s.below, ?_⟩)
    exact rfl
   replace hm := ite_f hc5 hm
   refine WP.skip (bn (tn (WP.region (Vm rfl (V rfl (ov_add rfl rfl rfl) (Va rfl (WL.nil (tn ?_))))))))
   exact ⟨(IntKind.wrap .i64 (i1 + 1)), (Sub.all rfl), fun w' s => (s.select [1] (by decide) rfl), hm⟩
  replace hm := ite_f hc3 hm
  refine WP.exit (then_exit (then_exit (block_here (tn ?_))))
  exact ⟨(Sub.all rfl), fun w' s => (s.select [] (by decide) rfl), hm⟩
 rintro g' S' ⟨hsub2, hS2, hm⟩
 refine WP.sub hsub2 (WP.weaken hS2 ?_)
 replace hm := hk1.symm.trans hm
 refine WP.seq (WP.region (Va rfl (WL.nil (tn (WP.ret ?_)))))
 obtain rfl := Option.some.inj hm
 refine retQ_ret results58 (Res.tmp rfl Res.nil) rfl (fun w' s => ⟨s.below, ?_⟩)
 exact rfl
theorem ref13_After_con (p_x : Step) (p_ends : (List Bool)) (ao1 : Option Addr) (cap1 : Nat) (ao2 : Option Addr) (cap2 : Nat) (w : World) (H : Heap) (hH : Le H (hp w)) (h1 : SL H encStroke ao1 p_x.strokes) (hc1 : p_x.strokes.length ≤ cap1) (h2 : SL H encBool ao2 p_ends) (hc2 : p_ends.length ≤ cap2) (hG : Glob H) (r : (List Bool)) (hm : ref13_After p_x p_ends = some r) :
  Con prog 59 [(.agg #[(.slice ao1 p_x.strokes.length cap1), (.int .i64 p_x.wait)]), (.slice ao2 p_ends.length cap2)] w H (fun v H' => ∃ (ao3 : Option Addr) (cap3 : Nat), v = (.slice ao3 r.length cap3) ∧ SL H' encBool ao3 r ∧ r.length ≤ cap3) := by
 unfold ref13_After at hm
 refine con_of hH func59 rfl 32 ntmps59 rfl ?_
 refine WP.seq (WP.region ?_)
 refine ws rfl (os_box (cs := [(.slice ao1 p_x.strokes.length cap1), (.int .i64 p_x.wait)]) rfl rfl rfl (fun b1 => ?_))
 refine Va rfl (WL.nil (tn (WP.seq (WP.region ?_))))
 have rl1 : RL H encBool ([] : List Bool) [] := RL.nil _ _
 refine ws rfl (os_buildSlice (cs := []) (E := 4) (sz := 1) rfl rfl (fun _ => by kernel_rfl) rfl (by decide) (fun b2 => ?_))
 refine Vm rfl ?_
 obtain ⟨l1, e1, hm⟩ := bind_some hm
 refine ws rfl (os_app_sl (i := 0) (En := encBool) (xs := []) underlying107 (by kernel_rfl : (prog.info? 4).map (fun i => (i.zero, i.size, i.bytes)) = some (some (.bool false), (encBool).size, 1)) rfl (by decide) one_encBool rfl rfl rfl rfl h2 hc2 rl1 e1 (fun ao4 cap4 ys1 rl2 => ?_))
 refine Va rfl (WL.nil (tn ?_))
 obtain ⟨k1, hk1, hm⟩ := joinK_some hm
 refine WP.seq_join (fun g' S' => ∃ (l3 : (List Bool)) (ao6 : Option Addr) (cap6 : Nat) (xs2 : List Value), RL H encBool l3 xs2 ∧ Sub [(5, (.slice ao6 l3.length cap6)), (1000000007, (.bool false))] g' ∧ (∀ w', S' w' → St w H [.row 4 (encBool).size l3.length (.slice ao6 l3.length cap6) xs2] H w') ∧ k1 l3 = some r) ?_ ?_
 ·
  refine WP.seq (WP.region (Va rfl (WL.nil (tn (WP.block ?_)))))
  refine WP.loop (fun m1 g' S' => ∃ (i1 : Int) (l2 : (List Bool)) (ao5 : Option Addr) (cap5 : Nat) (xs1 : List Value), RL H encBool l2 xs1 ∧ Sub [(2, (pB b1 0)), (5, (.slice ao5 l2.length cap5)), (6, (.int .i64 i1)), (1000000007, (.bool false))] g' ∧ (∀ w', S' w' → St w H [.row 4 (encBool).size l2.length (.slice ao5 l2.length cap5) xs1, .blk b1 55 [(.slice ao1 p_x.strokes.length cap1), (.int .i64 p_x.wait)]] H w') ∧ ref13_After_loop1 p_x k1 m1 i1 l2 = some r) ((Int.toNat ((p_x.strokes.length : Int) - 0) + 1)) ⟨0, (([] : List Bool) ++ p_ends), ao4, cap4, ([] ++ ys1), rl2, (Sub.all rfl), fun w' s => s, hm⟩ ?_ ?_
  ·
   rintro g' S' ⟨_, _, _, _, _, _, _, _, hm⟩
   exact none_some hm
  rintro m1 g' S' ⟨i1, l2, ao5, cap5, xs1, rl3, hsub1, hS1, hm⟩
  refine WP.sub hsub1 (WP.weaken hS1 ?_)
  rw [ref13_After_loop1] at hm
  refine WP.seq (WP.seq (WP.region (Vm rfl (V rfl (ov_fieldAddr underlying55 rfl rfl rfl sizeOf53 rfl rfl) (Vl 1 isAgg53 rfl (V rfl (ov_len_slice underlying53 rfl rfl) (V rfl (ov_lss rfl rfl rfl) (WL.nil (tn ?_)))))))))
  refine WP.cond rfl (fun hc4 => ?_) (fun hc4 => ?_)
  ·
   replace hm := ite_t hc4 hm
   refine WP.skip (tn (WP.seq (WP.block ?_)))
   refine WP.region_any (S₀ := St w H [.blk b1 55 [(.slice ao1 p_x.strokes.length cap1), (.int .i64 p_x.wait)]] H) 15 rfl (by kernel_rfl) (fun w' s => (s.select [1] (by decide) rfl)) (fun _ s => s.drew) ?_
   refine TQ 0 (by kernel_rfl) rfl (ov_move rfl rfl) (TQ 1 (by kernel_rfl) rfl (ov_fieldAddr underlying55 rfl rfl rfl sizeOf53 rfl rfl) (TQ 2 (by kernel_rfl) rfl (ov_load_box (i := 0) isAgg53 rfl rfl rfl rfl) (TQ 3 (by kernel_rfl) rfl (ov_move rfl rfl) ?_)))
   obtain ⟨x1, e2, hm⟩ := bind_some hm
   obtain ⟨h4, h5, h6, cs1, h7, h8⟩ := h1.get e2 (by decide)
   obtain rfl : cs1 = [(.int .i64 x1.actuator), (.bool x1.out)] := h7
   refine TQ 4 (by kernel_rfl) rfl (ov_indexAddr underlying53 sizeOf59 rfl rfl rfl h4 h5 h6) (TQ 5 (by kernel_rfl) rfl (ov_fieldAddrE underlying59 rfl rfl rfl sizeOf3 rfl rfl) ?_)
   refine TQ 6 (by kernel_rfl) rfl (ov_load_elem (v := (.int .i64 x1.actuator)) isAgg3 rfl rfl (h8.one (off := 0) rfl)) (TQ 7 (by kernel_rfl) rfl (ov_fieldAddr underlying55 rfl rfl rfl sizeOf53 rfl rfl) (TQ 8 (by kernel_rfl) rfl (ov_load_box (i := 0) isAgg53 rfl rfl rfl rfl) (TQ 9 (by kernel_rfl) rfl (ov_move rfl rfl) ?_)))
   obtain ⟨x2, e3, hm⟩ := bind_some hm
   obtain ⟨h9, h10, h11, cs2, h12, h13⟩ := h1.get e3 (by decide)
   obtain rfl : cs2 = [(.int .i64 x2.actuator), (.bool x2.out)] := h12
   refine TQ 10 (by kernel_rfl) rfl (ov_indexAddr underlying53 sizeOf59 rfl rfl rfl h9 h10 h11) (TQ 11 (by kernel_rfl) rfl (ov_fieldAddrE underlying59 rfl rfl rfl sizeOf4 rfl rfl) ?_)
   refine TQ 12 (by kernel_rfl) rfl (ov_load_elem (v := (.bool x2.out)) isAgg4 rfl rfl (h13.one (off := 1) rfl)) ?_
   refine AL.any (rs := [13]) (by kernel_rfl) (by decide) ?_
   refine ALs.cons (i := 13) rfl (Runs.free rfl) rfl rfl ?_ ?_
   ·
    obtain ⟨x3, e4, hm⟩ := bind_some hm
    obtain ⟨h14, h15, h16, cs3, h17, h18⟩ := RL.get rl3 e4
    obtain rfl : cs3 = [(.bool x3)] := h17
    refine OQ.step (OV.quiet (ov_indexAddr_own (i := 0) underlying107 sizeOf4 rfl rfl rfl rfl h14 h15)) ?_
    refine ⟨fun w' s => (s.select [1] (by decide) rfl), ?_⟩
    refine AL.any (rs := [14]) (by kernel_rfl) (by decide) ?_
    refine ALs.cons0 (i := 14) rfl (Runs.free rfl) rfl ?_ ?_
    ·
     have rl4 := RL.set rl3 (y := x2.out) (off := 0) (vs := [(.bool x2.out)]) e4 h18 rfl (Nat.le_of_ble_eq_true rfl)
     have e5 := at?_set (y := x2.out) e4
     refine os_store_own (i := 0) (vs := [(.bool x2.out)]) sizeOf4 rfl rfl rfl rfl (own_pos h14 h15) rfl rfl (elem_le (off := 0) h16 (Nat.le_of_ble_eq_true rfl)) rfl ?_
     rw [show l2.length = (List.set l2 (Int.toNat x1.actuator) x2.out).length from List.length_set.symm]
     obtain ⟨h19, h20, h21, cs4, h22, h23⟩ := rl4.get e5
     obtain rfl : cs4 = [(.bool x2.out)] := h22
     refine ⟨fun w' s => (s.select [1] (by decide) rfl), ?_⟩
     refine AL.done (by kernel_rfl) ?_
     refine bn (tn (WP.region (Vm rfl (V rfl (ov_add rfl rfl rfl) (Va rfl (WL.nil (tn ?_)))))))
     exact ⟨(IntKind.wrap .i64 (i1 + 1)), (List.set l2 (Int.toNat x1.actuator) x2.out), ao5, cap5, (spl xs1 (Int.toNat x1.actuator * encBool.size + 0) [(.bool x2.out)]), rl4, (Sub.all rfl), fun w' s => s, hm⟩
    exact ALs.nil
   exact ALs.nil
  replace hm := ite_f hc4 hm
  refine WP.exit (then_exit (then_exit (block_here (tn ?_))))
  exact ⟨l2, ao5, cap5, xs1, rl3, (Sub.all rfl), fun w' s => (s.select [0] (by decide) rfl), hm⟩
 rintro g' S' ⟨l3, ao6, cap6, xs2, rl5, hsub2, hS2, hm⟩
 refine WP.sub hsub2 (WP.weaken hS2 ?_)
 replace hm := (congrFun hk1 l3).symm.trans hm
 refine WP.seq (WP.region (Vm rfl (Va rfl (WL.nil (tn (WP.ret ?_))))))
 obtain rfl := Option.some.inj hm
 refine retQ_ret results59 (Res.tmp rfl Res.nil) rfl (fun w' s => ⟨s.below, ?_⟩)
 obtain ⟨h24, hc5⟩ := s.ret_row (i := 0) rfl rl5
 exact ⟨ao6, cap6, rfl, h24, hc5⟩
theorem ref14_steps_con (p_s : Sequence) (ao1 : Option Addr) (cap1 : Nat) (w : World) (H : Heap) (hH : Le H (hp w)) (h1 : SL H encStep ao1 p_s.steps) (hc1 : p_s.steps.length ≤ cap1) (hG : Glob H) (r : Int) (hm : ref14_steps p_s = some r) :
  Con prog 33 [(.agg #[(.int .i64 p_s.actuators), (.slice ao1 p_s.steps.length cap1)])] w H (fun v _ => v = (.int .i64 r)) := by
 unfold ref14_steps at hm
 refine con_of hH func33 rfl 62 ntmps33 rfl ?_
 refine WP.seq (WP.region ?_)
 refine ws rfl (os_box (cs := [(.int .i64 p_s.actuators), (.slice ao1 p_s.steps.length cap1)]) rfl rfl rfl (fun b1 => ?_))
 refine Va rfl (WL.nil (tn (WP.seq (WP.region (V rfl (ov_fieldAddr underlying24 rfl rfl rfl sizeOf3 rfl rfl) (Vl 0 isAgg3 rfl ?_))))))
 obtain ⟨u1, e1, hm⟩ := bind_some hm
 replace e1 := guardO_some e1
 refine ws rfl (os_makeSlice (En := encBool) (z := (.bool false)) (y0 := false) (bytes := 1) underlying107 (by kernel_rfl) rfl (by decide) rfl rfl rfl e1 (fun b2 xs1 rl1 => ?_))
 refine Va rfl (WL.nil (tn ?_))
 obtain ⟨k1, hk1, hm⟩ := joinK_some hm
 refine WP.seq_join (fun g' S' => ∃ (H5 : Heap) (l3 : (List Bool)) (ao6 : Option Addr) (cap6 : Nat), Le H H5 ∧ SL H5 encBool ao6 l3 ∧ l3.length ≤ cap6 ∧ Sub [(1, (pB b1 0)), (3, (.slice ao6 l3.length cap6)), (1000000007, (.bool false))] g' ∧ (∀ w', S' w' → St w H [.blk b1 24 [(.int .i64 p_s.actuators), (.slice ao1 p_s.steps.length cap1)]] H5 w') ∧ k1 l3 = some r) ?_ ?_
 ·
  refine WP.seq (WP.region (Va rfl (WL.nil (tn (WP.block ?_)))))
  refine WP.held rl1 (fun H1 hc2 hle1 h2 => ?_)
  replace h1 := h1.mono hle1
  replace hG := hG.mono hle1
  refine WP.loop (fun m1 g' S' => ∃ (H2 : Heap) (l1 : (List Bool)) (ao2 : Option Addr) (cap2 : Nat) (i1 : Int), Le H1 H2 ∧ SL H2 encBool ao2 l1 ∧ l1.length ≤ cap2 ∧ Sub [(1, (pB b1 0)), (3, (.slice ao2 l1.length cap2)), (4, (.int .i64 i1)), (1000000007, (.bool false))] g' ∧ (∀ w', S' w' → St w H [.blk b1 24 [(.int .i64 p_s.actuators), (.slice ao1 p_s.steps.length cap1)]] H2 w') ∧ ref14_steps_loop1 p_s k1 m1 l1 i1 = some r) ((Int.toNat ((p_s.steps.length : Int) - 0) + 1)) ⟨H1, (List.replicate (Int.toNat p_s.actuators) false), (some ⟨b2, 0, none⟩), (Int.toNat p_s.actuators), 0, (Le.refl _), h2, hc2, (Sub.all rfl), fun w' s => s, hm⟩ ?_ ?_
  ·
   rintro g' S' ⟨_, _, _, _, _, _, _, _, _, _, hm⟩
   exact none_some hm
  rintro m1 g' S' ⟨H2, l1, ao2, cap2, i1, hle2, h3, hc3, hsub1, hS1, hm⟩
  refine WP.sub hsub1 (WP.weaken hS1 ?_)
  rw [ref14_steps_loop1] at hm
  replace h1 := h1.mono hle2
  replace hG := hG.mono hle2
  refine WP.seq (WP.seq (WP.region (Vm rfl (V rfl (ov_fieldAddr underlying24 rfl rfl rfl sizeOf22 rfl rfl) (Vl 0 isAgg22 rfl (V rfl (ov_len_slice underlying22 rfl rfl) (V rfl (ov_lss rfl rfl rfl) (WL.nil (tn ?_)))))))))
  refine WP.cond rfl (fun hc4 => ?_) (fun hc4 => ?_)
  ·
   replace hm := ite_t hc4 hm
   refine WP.skip (tn ?_)
   obtain ⟨k2, hk2, hm⟩ := joinK_some hm
   refine WP.seq_join (fun g' S' => ∃ (H4 : Heap) (l2 : (List Bool)) (ao5 : Option Addr) (cap5 : Nat), Le H2 H4 ∧ SL H4 encBool ao5 l2 ∧ l2.length ≤ cap5 ∧ Sub [(1, (pB b1 0)), (3, (.slice ao5 l2.length cap5)), (4, (.int .i64 i1)), (1000000007, (.bool false))] g' ∧ (∀ w', S' w' → St w H [.blk b1 24 [(.int .i64 p_s.actuators), (.slice ao1 p_s.steps.length cap1)]] H4 w') ∧ k2 l2 = some r) ?_ ?_
   ·
    refine WP.block (WP.seq (WP.region (V rfl (ov_fieldAddr underlying24 rfl rfl rfl sizeOf22 rfl rfl) (Vl 0 isAgg22 rfl (Vm rfl ?_)))))
    obtain ⟨x1, e2, hm⟩ := bind_some hm
    obtain ⟨h5, h6, h7, cs1, h8, h9⟩ := h1.get e2 (by decide)
    obtain ⟨ao3, cap3, rfl, h4, hc5⟩ := h8
    refine V rfl (ov_indexAddr underlying22 sizeOf55 rfl rfl rfl h5 h6 h7) (V rfl (ov_load_elems (vs := [(.slice ao3 x1.strokes.length cap3), (.int .i64 x1.wait)]) isAgg55 sizeOf55 rfl rfl rfl h9 h7) ?_)
    refine ws rfl (os_alloc (cs := [(.slice none 0 0), (.int .i64 0)]) zeroValue55 rfl rfl (fun b3 => ?_))
    refine ws0 rfl (os_store (i := 0) (vs := [(.slice ao3 x1.strokes.length cap3), (.int .i64 x1.wait)]) (cs' := [(.slice ao3 x1.strokes.length cap3), (.int .i64 x1.wait)]) sizeOf55 rfl rfl rfl rfl rfl rfl rfl rfl rfl ?_)
    refine WL.nil (tn (WP.seq (WP.seq (WP.region (V rfl (ov_load_whole (i := 0) isAgg55 sizeOf55 rfl rfl rfl rfl) ?_)))))
    obtain ⟨r1, e3, hm⟩ := bind_some hm
    refine wo rfl (oq_con (r := (.int .i64 r1)) call57 rfl rfl (fun w' s => ⟨_, (ref13_CheckStep_con x1 ao3 cap3  w' H2 s.hold h4 hc5 hG r1 e3)⟩)) ?_
    refine Va rfl (WL.nil (tn (WP.seq (WP.region (Vm rfl (V rfl (ov_neq rfl rfl rfl) (WL.nil (tn ?_))))))))
    refine WP.cond rfl (fun hc6 => ?_) (fun hc6 => ?_)
    ·
     replace hm := ite_t hc6 hm
     refine WP.seq (WP.region (Vm rfl (Va rfl (WL.nil (tn (WP.ret (then_ret (block_ret (then_ret (then_ret (block_ret (then_ret ?_))))))))))))
     obtain rfl := Option.some.inj hm
     refine retQ_ret results33 (Res.tmp rfl Res.nil) rfl (fun w' s => ⟨s.below, ?_⟩)
     exact rfl
    replace hm := ite_f hc6 hm
    refine WP.skip (tn ?_)
    obtain ⟨k3, hk3, hm⟩ := joinK_some hm
    refine WP.seq_join (fun g' S' => Sub [(1, (pB b1 0)), (3, (.slice ao2 l1.length cap2)), (4, (.int .i64 i1)), (5, (pB b3 0)), (1000000007, (.bool false))] g' ∧ (∀ w', S' w' → St w H [.blk b3 55 [(.slice ao3 x1.strokes.length cap3), (.int .i64 x1.wait)], .blk b1 24 [(.int .i64 p_s.actuators), (.slice ao1 p_s.steps.length cap1)]] H2 w') ∧ k3 = some r) ?_ ?_
    ·
     refine WP.seq (WP.region (Va rfl (WL.nil (tn (WP.block ?_)))))
     refine WP.loop (fun m2 g' S' => ∃ (i2 : Int), Sub [(1, (pB b1 0)), (3, (.slice ao2 l1.length cap2)), (4, (.int .i64 i1)), (5, (pB b3 0)), (7, (.int .i64 i2)), (1000000007, (.bool false))] g' ∧ (∀ w', S' w' → St w H [.blk b3 55 [(.slice ao3 x1.strokes.length cap3), (.int .i64 x1.wait)], .blk b1 24 [(.int .i64 p_s.actuators), (.slice ao1 p_s.steps.length cap1)]] H2 w') ∧ ref14_steps_loop2 p_s x1 k3 m2 i2 = some r) ((Int.toNat ((x1.strokes.length : Int) - 0) + 1)) ⟨0, (Sub.all rfl), fun w' s => s, hm⟩ ?_ ?_
     ·
      rintro g' S' ⟨_, _, _, hm⟩
      exact none_some hm
     rintro m2 g' S' ⟨i2, hsub2, hS2, hm⟩
     refine WP.sub hsub2 (WP.weaken hS2 ?_)
     rw [ref14_steps_loop2] at hm
     refine WP.seq (WP.seq (WP.region (Vm rfl (V rfl (ov_fieldAddr underlying55 rfl rfl rfl sizeOf53 rfl rfl) (Vl 0 isAgg53 rfl (V rfl (ov_len_slice underlying53 rfl rfl) (V rfl (ov_lss rfl rfl rfl) (WL.nil (tn ?_)))))))))
     refine WP.cond rfl (fun hc7 => ?_) (fun hc7 => ?_)
     ·
      replace hm := ite_t hc7 hm
      refine WP.skip (tn (WP.seq (WP.block (WP.seq ?_))))
      refine WP.region_draws (by kernel_rfl) (by kernel_rfl) (fun _ s => s.drew) ?_
      refine qf rfl (ov_fieldAddr underlying55 rfl rfl rfl sizeOf53 rfl rfl) ?_
      refine qf rfl (ov_load_box (i := 0) isAgg53 rfl rfl rfl rfl) ?_
      refine qf rfl (ov_move rfl rfl) ?_
      obtain ⟨x2, e4, hm⟩ := bind_some hm
      obtain ⟨h10, h11, h12, cs2, h13, h14⟩ := h4.get e4 (by decide)
      obtain rfl : cs2 = [(.int .i64 x2.actuator), (.bool x2.out)] := h13
      refine qf rfl (ov_indexAddr underlying53 sizeOf59 rfl rfl rfl h10 h11 h12) ?_
      refine qf rfl (ov_fieldAddrE underlying59 rfl rfl rfl sizeOf3 rfl rfl) ?_
      refine qf rfl (ov_load_elem (v := (.int .i64 x2.actuator)) isAgg3 rfl rfl (h14.one (off := 0) rfl)) ?_
      refine qf rfl (ov_fieldAddr underlying24 rfl rfl rfl sizeOf3 rfl rfl) ?_
      refine qf rfl (ov_load_box (i := 1) isAgg3 rfl rfl rfl rfl) ?_
      refine qf rfl (ov_geq rfl rfl rfl) ?_
      refine QL.nil ?_
      refine tn ?_
      refine WP.cond rfl (fun hc8 => ?_) (fun hc8 => ?_)
      ·
       replace hm := ite_t hc8 hm
       refine WP.seq (WP.region (Va rfl (WL.nil (tn (WP.ret (block_ret (then_ret (then_ret (block_ret (then_ret (block_ret (then_ret (then_ret ?_)))))))))))))
       refine block_ret (then_ret ?_)
       obtain rfl := Option.some.inj hm
       refine retQ_ret results33 (Res.tmp rfl Res.nil) rfl (fun w' s => ⟨s.below, ?_⟩)
       exact rfl
      replace hm := ite_f hc8 hm
      refine WP.skip (bn (tn (WP.region (Vm rfl (V rfl (ov_add rfl rfl rfl) (Va rfl (WL.nil (tn ?_))))))))
      exact ⟨(IntKind.wrap .i64 (i2 + 1)), (Sub.all rfl), fun w' s => s, hm⟩
     replace hm := ite_f hc7 hm
     refine WP.exit (then_exit (then_exit (block_here (tn ?_))))
     exact ⟨(Sub.all rfl), fun w' s => s, hm⟩
    rintro g' S' ⟨hsub3, hS3, hm⟩
    refine WP.sub hsub3 (WP.weaken hS3 ?_)
    replace hm := hk3.symm.trans hm
    refine WP.seq (WP.seq (WP.region (V rfl (ov_load_whole (i := 0) isAgg55 sizeOf55 rfl rfl rfl rfl) (Vm rfl ?_))))
    obtain ⟨r2, e5, hm⟩ := bind_some hm
    refine wo rfl (oq_con (r := (.bool r2)) call58 rfl rfl (fun w' s => ⟨_, (ref13_Suits_con x1 l1 ao3 cap3 ao2 cap2  w' H2 s.hold h4 hc5 h3 hc3 hG r2 e5)⟩)) ?_
    refine V rfl (ov_not rfl rfl) (WL.nil (tn ?_))
    refine WP.cond rfl (fun hc9 => ?_) (fun hc9 => ?_)
    ·
     replace hm := ite_t hc9 hm
     refine WP.seq (WP.region (Va rfl (WL.nil (tn (WP.ret (then_ret (block_ret (then_ret (then_ret (block_ret (then_ret ?_)))))))))))
     obtain rfl := Option.some.inj hm
     refine retQ_ret results33 (Res.tmp rfl Res.nil) rfl (fun w' s => ⟨s.below, ?_⟩)
     exact rfl
    replace hm := ite_f hc9 hm
    refine WP.skip (tn (WP.region (V rfl (ov_load_whole (i := 0) isAgg55 sizeOf55 rfl rfl rfl rfl) (Vm rfl ?_))))
    obtain ⟨r3, e6, hm⟩ := bind_some hm
    refine ws rfl (os_con call59 rfl rfl (fun w' s => (ref13_After_con x1 l1 ao3 cap3 ao2 cap2  w' H2 s.hold h4 hc5 h3 hc3 hG r3 e6)) (fun rr1 H3 hle3 hR1 => ?_))
    replace h3 := h3.mono hle3
    obtain ⟨ao4, cap4, rfl, h15, hc10⟩ := hR1
    refine Va rfl (WL.nil (bn (tn ?_)))
    exact ⟨H3, r3, ao4, cap4, hle3, h15, hc10, (Sub.all rfl), fun w' s => (s.select [1] (by decide) rfl), hm⟩
   rintro g' S' ⟨H4, l2, ao5, cap5, hle4, h16, hc11, hsub4, hS4, hm⟩
   refine WP.sub hsub4 (WP.weaken hS4 ?_)
   replace hm := (congrFun hk2 l2).symm.trans hm
   refine WP.region (Vm rfl (V rfl (ov_add rfl rfl rfl) (Va rfl (WL.nil (tn ?_)))))
   exact ⟨H4, l2, ao5, cap5, (IntKind.wrap .i64 (i1 + 1)), (hle2.trans hle4), h16, hc11, (Sub.all rfl), fun w' s => s, hm⟩
  replace hm := ite_f hc4 hm
  refine WP.exit (then_exit (then_exit (block_here (tn ?_))))
  exact ⟨H2, l1, ao2, cap2, (hle1.trans hle2), h3, hc3, (Sub.all rfl), fun w' s => s, hm⟩
 rintro g' S' ⟨H5, l3, ao6, cap6, hle5, h17, hc12, hsub5, hS5, hm⟩
 refine WP.sub hsub5 (WP.weaken hS5 ?_)
 replace hm := (congrFun hk1 l3).symm.trans hm
 obtain ⟨k4, hk4, hm⟩ := joinK_some hm
 refine WP.seq_join (fun g' S' => Sub [(1000000007, (.bool false))] g' ∧ (∀ w', S' w' → St w H [] H5 w') ∧ k4 = some r) ?_ ?_
 ·
  refine WP.seq (WP.region (Va rfl (WL.nil (tn (WP.block ?_)))))
  refine WP.loop (fun m3 g' S' => ∃ (i3 : Int), Sub [(1, (pB b1 0)), (3, (.slice ao6 l3.length cap6)), (8, (.int .i64 i3)), (1000000007, (.bool false))] g' ∧ (∀ w', S' w' → St w H [.blk b1 24 [(.int .i64 p_s.actuators), (.slice ao1 p_s.steps.length cap1)]] H5 w') ∧ ref14_steps_loop3 p_s l3 k4 m3 i3 = some r) ((Int.toNat (p_s.actuators - 0) + 1)) ⟨0, (Sub.all rfl), fun w' s => s, hm⟩ ?_ ?_
  ·
   rintro g' S' ⟨_, _, _, hm⟩
   exact none_some hm
  rintro m3 g' S' ⟨i3, hsub6, hS6, hm⟩
  refine WP.sub hsub6 (WP.weaken hS6 ?_)
  rw [ref14_steps_loop3] at hm
  refine WP.seq (WP.seq (WP.region (Vm rfl (V rfl (ov_fieldAddr underlying24 rfl rfl rfl sizeOf3 rfl rfl) (Vl 0 isAgg3 rfl (V rfl (ov_lss rfl rfl rfl) (WL.nil (tn ?_))))))))
  refine WP.cond rfl (fun hc13 => ?_) (fun hc13 => ?_)
  ·
   replace hm := ite_t hc13 hm
   refine WP.skip (tn (WP.seq (WP.block (WP.seq (WP.region (Vm rfl (Vm rfl ?_)))))))
   obtain ⟨x3, e7, hm⟩ := bind_some hm
   obtain ⟨h18, h19, h20, cs3, h21, h22⟩ := h17.get e7 (by decide)
   obtain rfl : cs3 = [(.bool x3)] := h21
   refine V rfl (ov_indexAddr underlying107 sizeOf4 rfl rfl rfl h18 h19 h20) (V rfl (ov_load_elem (v := (.bool x3)) isAgg4 rfl rfl h22) (WL.nil (tn ?_)))
   refine WP.cond rfl (fun hc14 => ?_) (fun hc14 => ?_)
   ·
    replace hm := ite_t hc14 hm
    refine WP.seq (WP.region (Va rfl (WL.nil (tn (WP.ret (block_ret (then_ret (then_ret (block_ret (then_ret ?_))))))))))
    obtain rfl := Option.some.inj hm
    refine retQ_ret results33 (Res.tmp rfl Res.nil) rfl (fun w' s => ⟨s.below, ?_⟩)
    exact rfl
   replace hm := ite_f hc14 hm
   refine WP.skip (bn (tn (WP.region (Vm rfl (V rfl (ov_add rfl rfl rfl) (Va rfl (WL.nil (tn ?_))))))))
   exact ⟨(IntKind.wrap .i64 (i3 + 1)), (Sub.all rfl), fun w' s => s, hm⟩
  replace hm := ite_f hc13 hm
  refine WP.exit (then_exit (then_exit (block_here (tn ?_))))
  exact ⟨(Sub.all rfl), fun w' s => (s.select [] (by decide) rfl), hm⟩
 rintro g' S' ⟨hsub7, hS7, hm⟩
 refine WP.sub hsub7 (WP.weaken hS7 ?_)
 replace hm := hk4.symm.trans hm
 refine WP.seq (WP.region (Va rfl (WL.nil (tn (WP.ret ?_)))))
 obtain rfl := Option.some.inj hm
 refine retQ_ret results33 (Res.tmp rfl Res.nil) rfl (fun w' s => ⟨s.below, ?_⟩)
 exact rfl
end Go.Proofs.YtkgijoddkibapaaGreatDoor.W
