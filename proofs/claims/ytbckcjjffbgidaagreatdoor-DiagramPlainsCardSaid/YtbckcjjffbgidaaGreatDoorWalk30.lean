/- The walks. Written by our own program gen.py; Lean checks it. -/
import Derived.Test.YtbckcjjffbgidaaGreatDoorPlain
import Derived.Test.YtbckcjjffbgidaaGreatDoorEqs
import Derived.Test.YtbckcjjffbgidaaGreatDoorProg
import Derived.Test.YtbckcjjffbgidaaGreatDoorExt
import Derived.Test.YtbckcjjffbgidaaGreatDoorBuild
import Derived.Test.YtbckcjjffbgidaaGreatDoorClone
import Derived.Test.YtbckcjjffbgidaaGreatDoorWalk7
import Derived.Test.YtbckcjjffbgidaaGreatDoorWalk8
import Derived.Test.YtbckcjjffbgidaaGreatDoorWalk10
import Derived.Test.YtbckcjjffbgidaaGreatDoorWalk13
set_option linter.unusedVariables false
set_option maxRecDepth 100000
set_option maxHeartbeats 4000000
namespace Go.Proofs.YtbckcjjffbgidaaGreatDoor.W
open Go Go.RowKit Go.Proofs.Tryz
theorem law16_DiagramPlains_con (p_s : Sequence) (p_before : (List Int)) (ao1 : Option Addr) (cap1 : Nat) (ao2 : Option Addr) (cap2 : Nat) (w : World) (H : Heap) (hH : Le H (hp w)) (h1 : SL H encStep ao1 p_s.steps) (hc1 : p_s.steps.length ≤ cap1) (h2 : SL H (encInt .i64) ao2 p_before) (hc2 : p_before.length ≤ cap2) (hG : Glob H) (r : Bool) (hm : law16_DiagramPlains p_s p_before = some r) :
  Con prog 7 [(.agg #[(.int .i64 p_s.actuators), (.slice ao1 p_s.steps.length cap1)]), (.slice ao2 p_before.length cap2)] w H (fun v _ => v = (.bool r)) := by
 unfold law16_DiagramPlains at hm
 refine con_of hH func7 rfl 72 ntmps7 rfl ?_
 refine WP.seq (WP.region ?_)
 refine ws rfl (os_box (cs := [(.int .i64 p_s.actuators), (.slice ao1 p_s.steps.length cap1)]) rfl rfl rfl (fun b1 => ?_))
 refine Va rfl (WL.nil (tn (WP.seq (WP.seq (WP.region (V rfl (ov_load_whole (i := 0) isAgg24 sizeOf24 rfl rfl rfl rfl) ?_))))))
 obtain ⟨r1, e1, hm⟩ := bind_some hm
 refine wo rfl (oq_con (r := (.bool r1)) call22 rfl rfl (fun w' s => ⟨_, (law16_right_con p_s ao1 cap1  w' H s.hold h1 hc1 hG r1 e1)⟩)) ?_
 refine V rfl (ov_not rfl rfl) (Vm rfl ?_)
 refine WL.cut_bool 4 17 (x := ((!r1) || (decide ((p_before.length : Int) > 100)))) ?_ ?_
 ·
  rcases Bool.eq_false_or_eq_true (!r1) with hc3 | hc3
  ·
   refine Vi rfl (Idle.no rfl rfl rfl hc3) (Vi rfl (Idle.no rfl rfl rfl hc3) (Vi rfl (Idle.no rfl rfl rfl hc3) (V rfl (ov_pick_true rfl (guard_eq rfl hc3) rfl) ?_)))
   exact WL.nil ⟨Sub.cons' rfl (congrArg Value.bool (orT hc3)) (Sub.dropn 4 rfl), fun _ s => s⟩
  refine wy hc3 rfl (ov_move rfl rfl) ?_
  refine wy hc3 rfl (ov_len_slice underlying39 rfl rfl) ?_
  refine wy hc3 rfl (ov_gtr rfl rfl rfl) ?_
  refine V rfl (ov_pick_false rfl (guard_eq rfl hc3) rfl) ?_
  exact WL.nil ⟨Sub.cons' rfl (congrArg Value.bool (orF hc3)) (Sub.dropn 4 rfl), fun _ s => s⟩
 refine WL.nil (tn ?_)
 refine WP.cond rfl (fun hc4 => ?_) (fun hc4 => ?_)
 ·
  replace hm := ite_t hc4 hm
  refine WP.seq (WP.region ?_)
  obtain ⟨r2, e2, hm⟩ := bind_some hm
  refine wo rfl (oq_con (r := (.bool r2)) call12 rfl rfl (fun w' s => ⟨_, (law16_awake_con   w' H s.hold hG r2 e2)⟩)) ?_
  refine Va rfl (WL.nil (tn (WP.ret (then_ret ?_))))
  obtain rfl := Option.some.inj hm
  refine retQ_ret results7 (Res.tmp rfl Res.nil) rfl (fun w' s => ⟨s.below, ?_⟩)
  exact rfl
 replace hm := ite_f hc4 hm
 refine WP.skip (tn (WP.seq (WP.region (V rfl (ov_load_whole (i := 0) isAgg24 sizeOf24 rfl rfl rfl rfl) (Vm rfl ?_)))))
 obtain ⟨r3, e3, hm⟩ := bind_some hm
 refine ws rfl (os_con call20 rfl rfl (fun w' s => (diagram_Marks_con p_s p_before ao1 cap1 ao2 cap2  w' H s.hold h1 hc1 h2 hc2 hG r3 e3)) (fun rr1 H1 hle1 hR1 => ?_))
 replace h1 := h1.mono hle1
 replace hG := hG.mono hle1
 obtain ⟨ao3, cap3, rfl, h3, hc5⟩ := hR1
 refine Vm rfl (Ve rfl (Ve rfl (Va rfl (Va rfl (WL.nil (tn (WP.seq (WP.seq (WP.region (Vm rfl (V rfl (ov_neq rfl rfl rfl) (WL.nil (tn ?_)))))))))))))
 refine WP.cond rfl (fun hc6 => ?_) (fun hc6 => ?_)
 ·
  replace hm := ite_t hc6 hm
  refine WP.seq (WP.region ?_)
  obtain ⟨r4, e4, hm⟩ := bind_some hm
  refine wo rfl (oq_con (r := (.bool r4)) call12 rfl rfl (fun w' s => ⟨_, (law16_awake_con   w' H1 s.hold hG r4 e4)⟩)) ?_
  refine Va rfl (WL.nil (tn (WP.ret (then_ret ?_))))
  obtain rfl := Option.some.inj hm
  refine retQ_ret results7 (Res.tmp rfl Res.nil) rfl (fun w' s => ⟨s.below, ?_⟩)
  exact rfl
 replace hm := ite_f hc6 hm
 refine WP.skip (tn (WP.seq (WP.region (V rfl (ov_load_whole (i := 0) isAgg24 sizeOf24 rfl rfl rfl rfl) ?_))))
 obtain ⟨r5, e5, hm⟩ := bind_some hm
 refine ws rfl (os_con call13 rfl rfl (fun w' s => (diagram_Draw_con p_s ao1 cap1  w' H1 s.hold h1 hc1 hG r5 e5)) (fun rr2 H2 hle2 hR2 => ?_))
 replace h3 := h3.mono hle2
 replace hG := hG.mono hle2
 obtain ⟨ao4, cap4, rfl, h4, hc7⟩ := hR2
 refine Vm rfl (Ve rfl (Ve rfl (Va rfl (Va rfl (WL.nil (tn (WP.seq (WP.seq (WP.region (Vm rfl (V rfl (ov_neq rfl rfl rfl) (Vm rfl ?_))))))))))))
 refine WL.cut_bool 6 41 (x := ((r5.2 != 0) || ((r3.1.length : Int) != p_s.actuators))) ?_ ?_
 ·
  rcases Bool.eq_false_or_eq_true (r5.2 != 0) with hc8 | hc8
  ·
   refine Vi rfl (Idle.no rfl rfl rfl hc8) (Vi rfl (Idle.no rfl rfl rfl hc8) (Vi rfl (Idle.no rfl rfl rfl hc8) (Vi rfl (Idle.no rfl rfl rfl hc8) (Vi rfl (Idle.no rfl rfl rfl hc8) (V rfl (ov_pick_true rfl (guard_eq rfl hc8) rfl) ?_)))))
   exact WL.nil ⟨Sub.cons' rfl (congrArg Value.bool (orT hc8)) (Sub.dropn 6 rfl), fun _ s => s⟩
  refine wy hc8 rfl (ov_move rfl rfl) ?_
  refine wy hc8 rfl (ov_len_slice underlying27 rfl rfl) ?_
  refine wy hc8 rfl (ov_fieldAddr underlying24 rfl rfl rfl sizeOf3 rfl rfl) ?_
  refine wy hc8 rfl (ov_load_box (i := 0) isAgg3 rfl rfl rfl rfl) ?_
  refine wy hc8 rfl (ov_neq rfl rfl rfl) ?_
  refine V rfl (ov_pick_false rfl (guard_eq rfl hc8) rfl) ?_
  exact WL.nil ⟨Sub.cons' rfl (congrArg Value.bool (orF hc8)) (Sub.dropn 6 rfl), fun _ s => s⟩
 refine Vm rfl ?_
 refine WL.cut_bool 6 48 (x := (((r5.2 != 0) || ((r3.1.length : Int) != p_s.actuators)) || (decide ((r5.1.length : Int) < (r3.1.length : Int))))) ?_ ?_
 ·
  rcases Bool.eq_false_or_eq_true ((r5.2 != 0) || ((r3.1.length : Int) != p_s.actuators)) with hc9 | hc9
  ·
   refine Vi rfl (Idle.no rfl rfl rfl hc9) (Vi rfl (Idle.no rfl rfl rfl hc9) (Vi rfl (Idle.no rfl rfl rfl hc9) (Vi rfl (Idle.no rfl rfl rfl hc9) (Vi rfl (Idle.no rfl rfl rfl hc9) (V rfl (ov_pick_true rfl (guard_eq rfl hc9) rfl) ?_)))))
   exact WL.nil ⟨Sub.cons' rfl (congrArg Value.bool (orT hc9)) (Sub.dropn 6 rfl), fun _ s => s⟩
  refine wy hc9 rfl (ov_move rfl rfl) ?_
  refine wy hc9 rfl (ov_len_slice underlying27 rfl rfl) ?_
  refine wy hc9 rfl (ov_move rfl rfl) ?_
  refine wy hc9 rfl (ov_len_slice underlying27 rfl rfl) ?_
  refine wy hc9 rfl (ov_lss rfl rfl rfl) ?_
  refine V rfl (ov_pick_false rfl (guard_eq rfl hc9) rfl) ?_
  exact WL.nil ⟨Sub.cons' rfl (congrArg Value.bool (orF hc9)) (Sub.dropn 6 rfl), fun _ s => s⟩
 refine WL.nil (tn ?_)
 refine WP.cond rfl (fun hc10 => ?_) (fun hc10 => ?_)
 ·
  replace hm := ite_t hc10 hm
  refine WP.seq (WP.region (Va rfl (WL.nil (tn (WP.ret (then_ret ?_))))))
  obtain rfl := Option.some.inj hm
  refine retQ_ret results7 (Res.tmp rfl Res.nil) rfl (fun w' s => ⟨s.below, ?_⟩)
  exact rfl
 replace hm := ite_f hc10 hm
 refine WP.skip (tn ?_)
 obtain ⟨k1, hk1, hm⟩ := joinK_some hm
 refine WP.seq_join (fun g' S' => Sub [(1000000007, (.bool false))] g' ∧ (∀ w', S' w' → St w H [] H2 w') ∧ k1 = some r) ?_ ?_
 ·
  refine WP.seq (WP.region (Vm rfl (V rfl (ov_len_slice underlying27 rfl rfl) (Vm rfl (WL.nil (tn (WP.block ?_)))))))
  refine WP.loop (fun m1 g' S' => ∃ (i1 : Int), Sub [(1, (.slice ao2 p_before.length cap2)), (7, (.slice ao4 r5.1.length cap4)), (49, (.slice ao3 r3.1.length cap3)), (50, (.int .i64 (r3.1.length : Int))), (51, (.int .i64 i1)), (1000000007, (.bool false))] g' ∧ (∀ w', S' w' → St w H [] H2 w') ∧ law16_DiagramPlains_loop1 p_before r3 r5 k1 m1 i1 = some r) ((Int.toNat ((r3.1.length : Int) - 0) + 1)) ⟨0, (Sub.all rfl), fun w' s => (s.select [] (by decide) rfl), hm⟩ ?_ ?_
  ·
   rintro g' S' ⟨_, _, _, hm⟩
   exact none_some hm
  rintro m1 g' S' ⟨i1, hsub1, hS1, hm⟩
  refine WP.sub hsub1 (WP.weaken hS1 ?_)
  rw [law16_DiagramPlains_loop1] at hm
  refine WP.seq (WP.region (V rfl (ov_lss rfl rfl rfl) (WL.nil (tn (WP.seq ?_)))))
  refine WP.cond rfl (fun hc11 => ?_) (fun hc11 => ?_)
  ·
   replace hm := ite_t hc11 hm
   refine WP.skip (tn (WP.seq (WP.block (WP.seq (WP.region (Vm rfl ?_))))))
   obtain ⟨x1, e6, hm⟩ := bind_some hm
   obtain ⟨h5, h6, h7, cs1, h8, h9⟩ := h3.get e6 (by decide)
   obtain rfl : cs1 = [(mkS x1)] := h8
   refine V rfl (ov_indexAddr underlying27 sizeOf9 rfl rfl rfl h5 h6 h7) (V rfl (ov_load_elem (v := (mkS x1)) isAgg9 rfl rfl h9) (Va rfl (Va rfl (WL.nil (tn (WP.seq ?_))))))
   refine WP.region_draws (by kernel_rfl) (by kernel_rfl) (fun _ s => s.drew) ?_
   refine qf rfl (ov_move rfl rfl) ?_
   obtain ⟨r6, e7, hm⟩ := bind_some hm
   refine QL.quiet (Runs.free rfl) rfl rfl (oq_con (r := (mkS r6)) call25 rfl rfl (fun w' s => ⟨_, (replAll_con x1 [124] []  w' H2 s.hold hG r6 e7)⟩)) ?_
   refine qf rfl (ov_move rfl rfl) ?_
   refine qf rfl (ov_move rfl rfl) ?_
   obtain ⟨x2, e8, hm⟩ := bind_some hm
   obtain ⟨h10, h11, h12, cs2, h13, h14⟩ := h4.get e8 (by decide)
   obtain rfl : cs2 = [(mkS x2)] := h13
   refine qf rfl (ov_indexAddr underlying27 sizeOf9 rfl rfl rfl h10 h11 h12) ?_
   refine qf rfl (ov_load_elem (v := (mkS x2)) isAgg9 rfl rfl h14) ?_
   refine qf rfl (ov_sneq rfl rfl rfl) ?_
   refine qf rfl (ov_move rfl rfl) ?_
   obtain ⟨c1, e9, hm⟩ := bind_some hm
   refine QL.part_bool 6 69 (x := c1) ?_ ?_
   ·
    rcases Bool.eq_false_or_eq_true (!(r6 == x2)) with hc12 | hc12
    ·
     replace hm := ite_t hc12 e9
     refine QL.idle (Idle.no rfl rfl rfl hc12) rfl rfl ?_
     refine QL.idle (Idle.no rfl rfl rfl hc12) rfl rfl ?_
     refine QL.idle (Idle.no rfl rfl rfl hc12) rfl rfl ?_
     refine QL.idle (Idle.no rfl rfl rfl hc12) rfl rfl ?_
     refine QL.idle (Idle.no rfl rfl rfl hc12) rfl rfl ?_
     refine qf rfl (ov_pick_true rfl (guard_eq rfl hc12) rfl) ?_
     exact QL.nil (Sub.cons' rfl (congrArg Value.bool (Option.some.inj hm)) (Sub.dropn 6 rfl))
    replace hm := ite_f hc12 e9
    refine qy hc12 rfl (ov_move rfl rfl) ?_
    obtain ⟨r7, e10, hm⟩ := bind_some hm
    refine QL.quiet (Runs.yes rfl rfl rfl hc12) rfl rfl (oq_con (r := (.int .i64 r7)) call23 rfl rfl (fun w' s => ⟨_, (countS_con x1 [124]  w' H2 s.hold hG r7 e10)⟩)) ?_
    refine qy hc12 rfl (ov_move rfl rfl) ?_
    refine qy hc12 rfl (ov_len_slice underlying39 rfl rfl) ?_
    refine qy hc12 rfl (ov_neq rfl rfl rfl) ?_
    refine qf rfl (ov_pick_false rfl (guard_eq rfl hc12) rfl) ?_
    exact QL.nil (Sub.cons' rfl (congrArg Value.bool (Option.some.inj hm)) (Sub.dropn 6 rfl))
   refine QL.nil ?_
   refine tn ?_
   refine WP.cond rfl (fun hc13 => ?_) (fun hc13 => ?_)
   ·
    replace hm := ite_t hc13 hm
    refine WP.seq (WP.region (Va rfl (WL.nil (tn (WP.ret (block_ret (then_ret (then_ret (block_ret (then_ret ?_))))))))))
    obtain rfl := Option.some.inj hm
    refine retQ_ret results7 (Res.tmp rfl Res.nil) rfl (fun w' s => ⟨s.below, ?_⟩)
    exact rfl
   replace hm := ite_f hc13 hm
   refine WP.skip (bn (tn (WP.region (V rfl (ov_add rfl rfl rfl) (Vm rfl (WL.nil (tn ?_)))))))
   exact ⟨(IntKind.wrap .i64 (i1 + 1)), (Sub.all rfl), fun w' s => s, hm⟩
  replace hm := ite_f hc11 hm
  refine WP.exit (then_exit (then_exit (block_here (tn ?_))))
  exact ⟨(Sub.all rfl), fun w' s => s, hm⟩
 rintro g' S' ⟨hsub2, hS2, hm⟩
 refine WP.sub hsub2 (WP.weaken hS2 ?_)
 replace hm := hk1.symm.trans hm
 refine WP.seq (WP.region ?_)
 obtain ⟨r8, e11, hm⟩ := bind_some hm
 refine wo rfl (oq_con (r := (.bool r8)) call12 rfl rfl (fun w' s => ⟨_, (law16_awake_con   w' H2 s.hold hG r8 e11)⟩)) ?_
 refine Va rfl (WL.nil (tn (WP.ret ?_)))
 obtain rfl := Option.some.inj hm
 refine retQ_ret results7 (Res.tmp rfl Res.nil) rfl (fun w' s => ⟨s.below, ?_⟩)
 exact rfl
end Go.Proofs.YtbckcjjffbgidaaGreatDoor.W
