/- The walks. Written by our own program gen.py; Lean checks it. -/
import Derived.Test.YtbckcjjffbgidaaGreatDoorPlain
import Derived.Test.YtbckcjjffbgidaaGreatDoorEqs
import Derived.Test.YtbckcjjffbgidaaGreatDoorProg
import Derived.Test.YtbckcjjffbgidaaGreatDoorExt
import Derived.Test.YtbckcjjffbgidaaGreatDoorBuild
import Derived.Test.YtbckcjjffbgidaaGreatDoorClone
import Derived.Test.YtbckcjjffbgidaaGreatDoorWalk0
import Derived.Test.YtbckcjjffbgidaaGreatDoorWalk3
import Derived.Test.YtbckcjjffbgidaaGreatDoorWalk4
set_option linter.unusedVariables false
set_option maxRecDepth 100000
set_option maxHeartbeats 4000000
namespace Go.Proofs.YtbckcjjffbgidaaGreatDoor.W
open Go Go.RowKit Go.Proofs.Tryz
theorem law16_DiagramReturns_con (p_s : Sequence) (p_times : (List Int)) (p_unit : Int) (ao1 : Option Addr) (cap1 : Nat) (ao2 : Option Addr) (cap2 : Nat) (w : World) (H : Heap) (hH : Le H (hp w)) (h1 : SL H encStep ao1 p_s.steps) (hc1 : p_s.steps.length ≤ cap1) (h2 : SL H (encInt .i64) ao2 p_times) (hc2 : p_times.length ≤ cap2) (hG : Glob H) (r : Bool) (hm : law16_DiagramReturns p_s p_times p_unit = some r) :
  Con prog 10 [(.agg #[(.int .i64 p_s.actuators), (.slice ao1 p_s.steps.length cap1)]), (.slice ao2 p_times.length cap2), (.int .u16 p_unit)] w H (fun v _ => v = (.bool r)) := by
 unfold law16_DiagramReturns at hm
 refine con_of hH func10 rfl 148 ntmps10 rfl ?_
 refine WP.seq (WP.region ?_)
 refine ws rfl (os_box (cs := [(.int .i64 p_s.actuators), (.slice ao1 p_s.steps.length cap1)]) rfl rfl rfl (fun b1 => ?_))
 refine Va rfl (WL.nil (tn (WP.seq (WP.seq (WP.region (V rfl (ov_load_whole (i := 0) isAgg24 sizeOf24 rfl rfl rfl rfl) ?_))))))
 obtain ⟨r1, e1, hm⟩ := bind_some hm
 refine wo rfl (oq_con (r := (.bool r1)) call22 rfl rfl (fun w' s => ⟨_, (law16_right_con p_s ao1 cap1  w' H s.hold h1 hc1 hG r1 e1)⟩)) ?_
 refine V rfl (ov_not rfl rfl) (Vm rfl ?_)
 refine WL.cut_bool 4 23 (x := ((!r1) || (decide ((p_times.length : Int) > 100)))) ?_ ?_
 ·
  rcases Bool.eq_false_or_eq_true (!r1) with hc3 | hc3
  ·
   refine Vi rfl (Idle.no rfl rfl rfl hc3) (Vi rfl (Idle.no rfl rfl rfl hc3) (Vi rfl (Idle.no rfl rfl rfl hc3) (V rfl (ov_pick_true rfl (guard_eq rfl hc3) rfl) ?_)))
   exact WL.nil ⟨Sub.cons' rfl (congrArg Value.bool (orT hc3)) (Sub.dropn 4 rfl), fun _ s => s⟩
  refine wy hc3 rfl (ov_move rfl rfl) ?_
  refine wy hc3 rfl (ov_len_slice underlying39 rfl rfl) ?_
  refine wy hc3 rfl (ov_gtr rfl rfl rfl) ?_
  refine V rfl (ov_pick_false rfl (guard_eq rfl hc3) rfl) ?_
  exact WL.nil ⟨Sub.cons' rfl (congrArg Value.bool (orF hc3)) (Sub.dropn 4 rfl), fun _ s => s⟩
 refine WL.nil (tn ?_)
 refine WP.cond rfl (fun hc4 => ?_) (fun hc4 => ?_)
 ·
  replace hm := ite_t hc4 hm
  refine WP.seq (WP.region ?_)
  obtain ⟨r2, e2, hm⟩ := bind_some hm
  refine wo rfl (oq_con (r := (.bool r2)) call12 rfl rfl (fun w' s => ⟨_, (law16_awake_con   w' H s.hold hG r2 e2)⟩)) ?_
  refine Va rfl (WL.nil (tn (WP.ret (then_ret ?_))))
  obtain rfl := Option.some.inj hm
  refine retQ_ret results10 (Res.tmp rfl Res.nil) rfl (fun w' s => ⟨s.below, ?_⟩)
  exact rfl
 replace hm := ite_f hc4 hm
 refine WP.skip (tn (WP.seq (WP.region (V rfl (ov_load_whole (i := 0) isAgg24 sizeOf24 rfl rfl rfl rfl) ?_))))
 obtain ⟨r3, e3, hm⟩ := bind_some hm
 refine ws rfl (os_con call13 rfl rfl (fun w' s => (diagram_Draw_con p_s ao1 cap1  w' H s.hold h1 hc1 hG r3 e3)) (fun rr1 H1 hle1 hR1 => ?_))
 replace h1 := h1.mono hle1
 replace h2 := h2.mono hle1
 replace hG := hG.mono hle1
 obtain ⟨ao3, cap3, rfl, h3, hc5⟩ := hR1
 refine Vm rfl (Ve rfl (Ve rfl (Va rfl (Va rfl (WL.nil (tn (WP.seq (WP.region (Vm rfl ?_)))))))))
 obtain ⟨r4, e4, hm⟩ := bind_some hm
 refine ws rfl (os_con call30 rfl rfl (fun w' s => (diagram_Read_con r3.1 ao3 cap3  w' H1 s.hold h3 hc5 hG r4 e4)) (fun rr2 H2 hle2 hR2 => ?_))
 replace h1 := h1.mono hle2
 replace h2 := h2.mono hle2
 replace hG := hG.mono hle2
 obtain ⟨ao4, cap4, rfl, h4, hc6⟩ := hR2
 refine Vm rfl (Ve rfl (Ve rfl ?_))
 refine ws rfl (os_alloc (cs := [(.int .i64 0), (.slice none 0 0)]) zeroValue24 rfl rfl (fun b2 => ?_))
 refine ws0 rfl (os_store (i := 0) (vs := [(.int .i64 r4.1.actuators), (.slice ao4 r4.1.steps.length cap4)]) (cs' := [(.int .i64 r4.1.actuators), (.slice ao4 r4.1.steps.length cap4)]) sizeOf24 rfl rfl rfl rfl rfl rfl rfl rfl rfl ?_)
 refine Va rfl (WL.nil (tn (WP.seq (WP.seq (WP.region (Vm rfl (Vm rfl (V rfl (ov_add rfl rfl rfl) (V rfl (ov_neq rfl rfl rfl) (Vm rfl ?_))))))))))
 obtain ⟨c1, e5, hm⟩ := bind_some hm
 refine WL.cut_bool 5 44 (x := c1) ?_ ?_
 ·
  rcases Bool.eq_false_or_eq_true ((IntKind.wrap .i64 (r3.2 + r4.2)) != 0) with hc7 | hc7
  ·
   replace hm := ite_t hc7 e5
   refine Vi rfl (Idle.no rfl rfl rfl hc7) (Vi rfl (Idle.no rfl rfl rfl hc7) (Vi rfl (Idle.no rfl rfl rfl hc7) (Vi rfl (Idle.no rfl rfl rfl hc7) (V rfl (ov_pick_true rfl (guard_eq rfl hc7) rfl) ?_))))
   exact WL.nil ⟨Sub.cons' rfl (congrArg Value.bool (Option.some.inj hm)) (Sub.dropn 5 rfl), fun _ s => s⟩
  replace hm := ite_f hc7 e5
  refine wy hc7 rfl (ov_load_whole (i := 0) isAgg24 sizeOf24 rfl rfl rfl rfl) ?_
  refine wy hc7 rfl (ov_load_whole (i := 1) isAgg24 sizeOf24 rfl rfl rfl rfl) ?_
  obtain ⟨r5, e6, hm⟩ := bind_some hm
  refine WL.quiet (Runs.yes rfl rfl rfl hc7) rfl rfl (oq_con (r := (.bool r5)) call34 rfl rfl (fun w' s => ⟨_, (ref14_Same_con r4.1 p_s ao4 cap4 ao1 cap1  w' H2 s.hold h4 hc6 h1 hc1 hG r5 e6)⟩)) ?_
  refine wy hc7 rfl (ov_not rfl rfl) ?_
  refine V rfl (ov_pick_false rfl (guard_eq rfl hc7) rfl) ?_
  exact WL.nil ⟨Sub.cons' rfl (congrArg Value.bool (Option.some.inj hm)) (Sub.dropn 5 rfl), fun _ s => s⟩
 refine WL.nil (tn ?_)
 refine WP.cond rfl (fun hc8 => ?_) (fun hc8 => ?_)
 ·
  replace hm := ite_t hc8 hm
  refine WP.seq (WP.region (Va rfl (WL.nil (tn (WP.ret (then_ret ?_))))))
  obtain rfl := Option.some.inj hm
  refine retQ_ret results10 (Res.tmp rfl Res.nil) rfl (fun w' s => ⟨s.below, ?_⟩)
  exact rfl
 replace hm := ite_f hc8 hm
 refine WP.skip (tn (WP.seq (WP.seq (WP.region (Vm rfl (Vm rfl (V rfl (ov_convert_int underlying68 underlying3 rfl rfl) ?_)))))))
 obtain ⟨r6, e7, hm⟩ := bind_some hm
 refine wo rfl (oq_con (r := (.bool r6)) call26 rfl rfl (fun w' s => ⟨_, (law16_short_con p_times (IntKind.wrap .i64 p_unit) ao2 cap2  w' H2 s.hold h2 hc2 hG r6 e7)⟩)) ?_
 refine V rfl (ov_not rfl rfl) (WL.nil (tn ?_))
 refine WP.cond rfl (fun hc9 => ?_) (fun hc9 => ?_)
 ·
  replace hm := ite_t hc9 hm
  refine WP.seq (WP.region ?_)
  obtain ⟨r7, e8, hm⟩ := bind_some hm
  refine wo rfl (oq_con (r := (.bool r7)) call12 rfl rfl (fun w' s => ⟨_, (law16_awake_con   w' H2 s.hold hG r7 e8)⟩)) ?_
  refine Va rfl (WL.nil (tn (WP.ret (then_ret ?_))))
  obtain rfl := Option.some.inj hm
  refine retQ_ret results10 (Res.tmp rfl Res.nil) rfl (fun w' s => ⟨s.below, ?_⟩)
  exact rfl
 replace hm := ite_f hc9 hm
 refine WP.skip (tn (WP.seq (WP.region (V rfl (ov_load_whole (i := 1) isAgg24 sizeOf24 rfl rfl rfl rfl) (Vm rfl (Vm rfl (V rfl (ov_convert_int underlying68 underlying3 rfl rfl) ?_)))))))
 obtain ⟨r8, e9, hm⟩ := bind_some hm
 refine ws rfl (os_con call27 rfl rfl (fun w' s => (diagram_Scale_con p_s p_times (IntKind.wrap .i64 p_unit) ao1 cap1 ao2 cap2  w' H2 s.hold h1 hc1 h2 hc2 hG r8 e9)) (fun rr3 H3 hle3 hR3 => ?_))
 replace h1 := h1.mono hle3
 replace h2 := h2.mono hle3
 replace hG := hG.mono hle3
 obtain ⟨ao5, cap5, rfl, h5, hc10⟩ := hR3
 refine Vm rfl (Ve rfl (Ve rfl (Va rfl (Va rfl (WL.nil (tn (WP.seq (WP.seq (WP.region (Vm rfl (V rfl (ov_neq rfl rfl rfl) (WL.nil (tn ?_)))))))))))))
 refine WP.cond rfl (fun hc11 => ?_) (fun hc11 => ?_)
 ·
  replace hm := ite_t hc11 hm
  refine WP.seq (WP.region ?_)
  obtain ⟨r9, e10, hm⟩ := bind_some hm
  refine wo rfl (oq_con (r := (.bool r9)) call12 rfl rfl (fun w' s => ⟨_, (law16_awake_con   w' H3 s.hold hG r9 e10)⟩)) ?_
  refine Va rfl (WL.nil (tn (WP.ret (then_ret ?_))))
  obtain rfl := Option.some.inj hm
  refine retQ_ret results10 (Res.tmp rfl Res.nil) rfl (fun w' s => ⟨s.below, ?_⟩)
  exact rfl
 replace hm := ite_f hc11 hm
 refine WP.skip (tn (WP.seq (WP.region (Vm rfl ?_))))
 obtain ⟨r10, e11, hm⟩ := bind_some hm
 refine ws rfl (os_con call32 rfl rfl (fun w' s => (diagram_Unscale_con r8.1 ao5 cap5  w' H3 s.hold h5 hc10 hG r10 e11)) (fun rr4 H4 hle4 hR4 => ?_))
 replace h1 := h1.mono hle4
 replace h2 := h2.mono hle4
 replace hG := hG.mono hle4
 obtain ⟨ao6, cap6, ao7, cap7, rfl, h6, hc12, h7, hc13⟩ := hR4
 refine Vm rfl (Ve rfl (Ve rfl (Ve rfl ?_)))
 refine ws rfl (os_alloc (cs := [(.int .i64 0), (.slice none 0 0)]) zeroValue24 rfl rfl (fun b3 => ?_))
 refine ws0 rfl (os_store (i := 0) (vs := [(.int .i64 r10.1.actuators), (.slice ao6 r10.1.steps.length cap6)]) (cs' := [(.int .i64 r10.1.actuators), (.slice ao6 r10.1.steps.length cap6)]) sizeOf24 rfl rfl rfl rfl rfl rfl rfl rfl rfl ?_)
 refine Va rfl (Va rfl (WL.nil (tn (WP.seq (WP.seq (WP.region (Vm rfl (V rfl (ov_neq rfl rfl rfl) (Vm rfl ?_)))))))))
 refine WL.cut_bool 7 77 (x := ((r10.2.2 != 0) || ((r10.2.1.length : Int) != (p_s.steps.length : Int)))) ?_ ?_
 ·
  rcases Bool.eq_false_or_eq_true (r10.2.2 != 0) with hc14 | hc14
  ·
   refine Vi rfl (Idle.no rfl rfl rfl hc14) (Vi rfl (Idle.no rfl rfl rfl hc14) (Vi rfl (Idle.no rfl rfl rfl hc14) (Vi rfl (Idle.no rfl rfl rfl hc14) (Vi rfl (Idle.no rfl rfl rfl hc14) (Vi rfl (Idle.no rfl rfl rfl hc14) (V rfl (ov_pick_true rfl (guard_eq rfl hc14) rfl) ?_))))))
   exact WL.nil ⟨Sub.cons' rfl (congrArg Value.bool (orT hc14)) (Sub.dropn 7 rfl), fun _ s => s⟩
  refine wy hc14 rfl (ov_move rfl rfl) ?_
  refine wy hc14 rfl (ov_len_slice underlying39 rfl rfl) ?_
  refine wy hc14 rfl (ov_fieldAddr underlying24 rfl rfl rfl sizeOf22 rfl rfl) ?_
  refine wy hc14 rfl (ov_load_box (i := 2) isAgg22 rfl rfl rfl rfl) ?_
  refine wy hc14 rfl (ov_len_slice underlying22 rfl rfl) ?_
  refine wy hc14 rfl (ov_neq rfl rfl rfl) ?_
  refine V rfl (ov_pick_false rfl (guard_eq rfl hc14) rfl) ?_
  exact WL.nil ⟨Sub.cons' rfl (congrArg Value.bool (orF hc14)) (Sub.dropn 7 rfl), fun _ s => s⟩
 refine Vm rfl ?_
 refine WL.cut_bool 8 86 (x := (((r10.2.2 != 0) || ((r10.2.1.length : Int) != (p_s.steps.length : Int))) || ((r10.1.steps.length : Int) != (p_s.steps.length : Int)))) ?_ ?_
 ·
  rcases Bool.eq_false_or_eq_true ((r10.2.2 != 0) || ((r10.2.1.length : Int) != (p_s.steps.length : Int))) with hc15 | hc15
  ·
   refine Vi rfl (Idle.no rfl rfl rfl hc15) (Vi rfl (Idle.no rfl rfl rfl hc15) (Vi rfl (Idle.no rfl rfl rfl hc15) (Vi rfl (Idle.no rfl rfl rfl hc15) (Vi rfl (Idle.no rfl rfl rfl hc15) (Vi rfl (Idle.no rfl rfl rfl hc15) (Vi rfl (Idle.no rfl rfl rfl hc15) (V rfl (ov_pick_true rfl (guard_eq rfl hc15) rfl) ?_)))))))
   exact WL.nil ⟨Sub.cons' rfl (congrArg Value.bool (orT hc15)) (Sub.dropn 8 rfl), fun _ s => s⟩
  refine wy hc15 rfl (ov_fieldAddr underlying24 rfl rfl rfl sizeOf22 rfl rfl) ?_
  refine wy hc15 rfl (ov_load_box (i := 0) isAgg22 rfl rfl rfl rfl) ?_
  refine wy hc15 rfl (ov_len_slice underlying22 rfl rfl) ?_
  refine wy hc15 rfl (ov_fieldAddr underlying24 rfl rfl rfl sizeOf22 rfl rfl) ?_
  refine wy hc15 rfl (ov_load_box (i := 2) isAgg22 rfl rfl rfl rfl) ?_
  refine wy hc15 rfl (ov_len_slice underlying22 rfl rfl) ?_
  refine wy hc15 rfl (ov_neq rfl rfl rfl) ?_
  refine V rfl (ov_pick_false rfl (guard_eq rfl hc15) rfl) ?_
  exact WL.nil ⟨Sub.cons' rfl (congrArg Value.bool (orF hc15)) (Sub.dropn 8 rfl), fun _ s => s⟩
 refine WL.nil (tn ?_)
 refine WP.cond rfl (fun hc16 => ?_) (fun hc16 => ?_)
 ·
  replace hm := ite_t hc16 hm
  refine WP.seq (WP.region (Va rfl (WL.nil (tn (WP.ret (then_ret ?_))))))
  obtain rfl := Option.some.inj hm
  refine retQ_ret results10 (Res.tmp rfl Res.nil) rfl (fun w' s => ⟨s.below, ?_⟩)
  exact rfl
 replace hm := ite_f hc16 hm
 refine WP.skip (tn ?_)
 obtain ⟨k1, hk1, hm⟩ := joinK_some hm
 refine WP.seq_join (fun g' S' => Sub [(1000000007, (.bool false))] g' ∧ (∀ w', S' w' → St w H [] H4 w') ∧ k1 = some r) ?_ ?_
 ·
  refine WP.seq (WP.region (V rfl (ov_fieldAddr underlying24 rfl rfl rfl sizeOf22 rfl rfl) (Vl 0 isAgg22 rfl (V rfl (ov_len_slice underlying22 rfl rfl) (Vm rfl (WL.nil (tn (WP.block ?_))))))))
  refine WP.loop (fun m1 g' S' => ∃ (i1 : Int), Sub [(1, (.slice ao2 p_times.length cap2)), (2, (.int .u16 p_unit)), (3, (pB b1 0)), (13, (.slice ao7 r10.2.1.length cap7)), (88, (.slice ao6 r10.1.steps.length cap6)), (89, (.int .i64 (r10.1.steps.length : Int))), (90, (.int .i64 i1)), (1000000007, (.bool false))] g' ∧ (∀ w', S' w' → St w H [.blk b1 24 [(.int .i64 p_s.actuators), (.slice ao1 p_s.steps.length cap1)]] H4 w') ∧ law16_DiagramReturns_loop1 p_s p_times p_unit r10 k1 m1 i1 = some r) ((Int.toNat ((r10.1.steps.length : Int) - 0) + 1)) ⟨0, (Sub.all rfl), fun w' s => (s.select [2] (by decide) rfl), hm⟩ ?_ ?_
  ·
   rintro g' S' ⟨_, _, _, hm⟩
   exact none_some hm
  rintro m1 g' S' ⟨i1, hsub1, hS1, hm⟩
  refine WP.sub hsub1 (WP.weaken hS1 ?_)
  rw [law16_DiagramReturns_loop1] at hm
  refine WP.seq (WP.region (V rfl (ov_lss rfl rfl rfl) (WL.nil (tn (WP.seq ?_)))))
  refine WP.cond rfl (fun hc17 => ?_) (fun hc17 => ?_)
  ·
   replace hm := ite_t hc17 hm
   refine WP.skip (tn (WP.seq (WP.block (WP.seq (WP.region (Vm rfl ?_))))))
   obtain ⟨x1, e12, hm⟩ := bind_some hm
   obtain ⟨h9, h10, h11, cs1, h12, h13⟩ := h6.get e12 (by decide)
   obtain ⟨ao8, cap8, rfl, h8, hc18⟩ := h12
   refine V rfl (ov_indexAddr underlying22 sizeOf45 rfl rfl rfl h9 h10 h11) (V rfl (ov_load_elems (vs := [(.slice ao8 x1.strokes.length cap8), (.int .i64 x1.wait)]) isAgg45 sizeOf45 rfl rfl rfl h13 h11) ?_)
   refine ws rfl (os_alloc (cs := [(.slice none 0 0), (.int .i64 0)]) zeroValue45 rfl rfl (fun b4 => ?_))
   refine Va rfl ?_
   refine ws0 rfl (os_store (i := 0) (vs := [(.slice ao8 x1.strokes.length cap8), (.int .i64 x1.wait)]) (cs' := [(.slice ao8 x1.strokes.length cap8), (.int .i64 x1.wait)]) sizeOf45 rfl rfl rfl rfl rfl rfl rfl rfl rfl ?_)
   refine WL.nil (tn (WP.seq ?_))
   refine WP.region_draws (by kernel_rfl) (by kernel_rfl) (fun _ s => s.drew) ?_
   refine qf rfl (ov_fieldAddr underlying45 rfl rfl rfl sizeOf3 rfl rfl) ?_
   refine qf rfl (ov_load_box (i := 0) isAgg3 rfl rfl rfl rfl) ?_
   refine qf rfl (ov_neq rfl rfl rfl) ?_
   refine qf rfl (ov_move rfl rfl) ?_
   obtain ⟨c2, e13, hm⟩ := bind_some hm
   refine QL.part_bool 11 109 (x := c2) ?_ ?_
   ·
    rcases Bool.eq_false_or_eq_true (x1.wait != 0) with hc19 | hc19
    ·
     replace hm := ite_t hc19 e13
     refine QL.idle (Idle.no rfl rfl rfl hc19) rfl rfl ?_
     refine QL.idle (Idle.no rfl rfl rfl hc19) rfl rfl ?_
     refine QL.idle (Idle.no rfl rfl rfl hc19) rfl rfl ?_
     refine QL.idle (Idle.no rfl rfl rfl hc19) rfl rfl ?_
     refine QL.idle (Idle.no rfl rfl rfl hc19) rfl rfl ?_
     refine QL.idle (Idle.no rfl rfl rfl hc19) rfl rfl ?_
     refine QL.idle (Idle.no rfl rfl rfl hc19) rfl rfl ?_
     refine QL.idle (Idle.no rfl rfl rfl hc19) rfl rfl ?_
     refine QL.idle (Idle.no rfl rfl rfl hc19) rfl rfl ?_
     refine QL.idle (Idle.no rfl rfl rfl hc19) rfl rfl ?_
     refine qf rfl (ov_pick_true rfl (guard_eq rfl hc19) rfl) ?_
     exact QL.nil (Sub.cons' rfl (congrArg Value.bool (Option.some.inj hm)) (Sub.dropn 11 rfl))
    replace hm := ite_f hc19 e13
    refine qy hc19 rfl (ov_fieldAddr underlying45 rfl rfl rfl sizeOf43 rfl rfl) ?_
    refine qy hc19 rfl (ov_load_box (i := 0) isAgg43 rfl rfl rfl rfl) ?_
    refine qy hc19 rfl (ov_fieldAddr underlying24 rfl rfl rfl sizeOf22 rfl rfl) ?_
    refine qy hc19 rfl (ov_load_box (i := 1) isAgg22 rfl rfl rfl rfl) ?_
    refine qy hc19 rfl (ov_move rfl rfl) ?_
    obtain ⟨x2, e14, hm⟩ := bind_some hm
    obtain ⟨h15, h16, h17, cs2, h18, h19⟩ := h1.get e14 (by decide)
    obtain ⟨ao9, cap9, rfl, h14, hc20⟩ := h18
    refine qy hc19 rfl (ov_indexAddr underlying22 sizeOf45 rfl rfl rfl h15 h16 h17) ?_
    refine qy hc19 rfl (ov_fieldAddrE underlying45 rfl rfl rfl sizeOf43 rfl rfl) ?_
    refine qy hc19 rfl (ov_load_elem (v := (.slice ao9 x2.strokes.length cap9)) isAgg43 rfl rfl (h19.one (off := 0) rfl)) ?_
    obtain ⟨r11, e15, hm⟩ := bind_some hm
    refine QL.quiet (Runs.yes rfl rfl rfl hc19) rfl rfl (oq_con (r := (.bool r11)) call36 rfl rfl (fun w' s => ⟨_, (slices_Equal_api_Strokeapi_Stroke_con x1.strokes x2.strokes ao8 cap8 ao9 cap9  w' H4 s.hold h8 hc18 h14 hc20 hG r11 e15)⟩)) ?_
    refine qy hc19 rfl (ov_not rfl rfl) ?_
    refine qf rfl (ov_pick_false rfl (guard_eq rfl hc19) rfl) ?_
    exact QL.nil (Sub.cons' rfl (congrArg Value.bool (Option.some.inj hm)) (Sub.dropn 11 rfl))
   refine qf rfl (ov_move rfl rfl) ?_
   obtain ⟨c3, e16, hm⟩ := bind_some hm
   refine QL.part_bool 13 123 (x := c3) ?_ ?_
   ·
    rcases Bool.eq_false_or_eq_true c2 with hc21 | hc21
    ·
     replace hm := ite_t hc21 e16
     refine QL.idle (Idle.no rfl rfl rfl hc21) rfl rfl ?_
     refine QL.idle (Idle.no rfl rfl rfl hc21) rfl rfl ?_
     refine QL.idle (Idle.no rfl rfl rfl hc21) rfl rfl ?_
     refine QL.idle (Idle.no rfl rfl rfl hc21) rfl rfl ?_
     refine QL.idle (Idle.no rfl rfl rfl hc21) rfl rfl ?_
     refine QL.idle (Idle.no rfl rfl rfl hc21) rfl rfl ?_
     refine QL.idle (Idle.no rfl rfl rfl hc21) rfl rfl ?_
     refine QL.idle (Idle.no rfl rfl rfl hc21) rfl rfl ?_
     refine QL.idle (Idle.no rfl rfl rfl hc21) rfl rfl ?_
     refine QL.idle (Idle.no rfl rfl rfl hc21) rfl rfl ?_
     refine QL.idle (Idle.no rfl rfl rfl hc21) rfl rfl ?_
     refine QL.idle (Idle.no rfl rfl rfl hc21) rfl rfl ?_
     refine qf rfl (ov_pick_true rfl (guard_eq rfl hc21) rfl) ?_
     exact QL.nil (Sub.cons' rfl (congrArg Value.bool (Option.some.inj hm)) (Sub.dropn 13 rfl))
    replace hm := ite_f hc21 e16
    refine qy hc21 rfl (ov_move rfl rfl) ?_
    refine qy hc21 rfl (ov_move rfl rfl) ?_
    obtain ⟨x3, e17, hm⟩ := bind_some hm
    obtain ⟨h20, h21, h22, cs3, h23, h24⟩ := h7.get e17 (by decide)
    obtain rfl : cs3 = [(.int .i64 x3)] := h23
    refine qy hc21 rfl (ov_indexAddr underlying39 sizeOf3 rfl rfl rfl h20 h21 h22) ?_
    refine qy hc21 rfl (ov_load_elem (v := (.int .i64 x3)) isAgg3 rfl rfl h24) ?_
    refine qy hc21 rfl (ov_move rfl rfl) ?_
    refine qy hc21 rfl (ov_convert_int underlying68 underlying3 rfl rfl) ?_
    refine qy hc21 rfl (ov_mul rfl rfl rfl) ?_
    refine qy hc21 rfl (ov_move rfl rfl) ?_
    refine qy hc21 rfl (ov_move rfl rfl) ?_
    obtain ⟨x4, e18, hm⟩ := bind_some hm
    obtain ⟨h25, h26, h27, cs4, h28, h29⟩ := h2.get e18 (by decide)
    obtain rfl : cs4 = [(.int .i64 x4)] := h28
    refine qy hc21 rfl (ov_indexAddr underlying39 sizeOf3 rfl rfl rfl h25 h26 h27) ?_
    refine qy hc21 rfl (ov_load_elem (v := (.int .i64 x4)) isAgg3 rfl rfl h29) ?_
    refine qy hc21 rfl (ov_lss rfl rfl rfl) ?_
    refine qf rfl (ov_pick_false rfl (guard_eq rfl hc21) rfl) ?_
    exact QL.nil (Sub.cons' rfl (congrArg Value.bool (Option.some.inj hm)) (Sub.dropn 13 rfl))
   refine qf rfl (ov_move rfl rfl) ?_
   obtain ⟨c4, e19, hm⟩ := bind_some hm
   refine QL.part_bool 21 145 (x := c4) ?_ ?_
   ·
    rcases Bool.eq_false_or_eq_true c3 with hc22 | hc22
    ·
     replace hm := ite_t hc22 e19
     refine QL.idle (Idle.no rfl rfl rfl hc22) rfl rfl ?_
     refine QL.idle (Idle.no rfl rfl rfl hc22) rfl rfl ?_
     refine QL.idle (Idle.no rfl rfl rfl hc22) rfl rfl ?_
     refine QL.idle (Idle.no rfl rfl rfl hc22) rfl rfl ?_
     refine QL.idle (Idle.no rfl rfl rfl hc22) rfl rfl ?_
     refine QL.idle (Idle.no rfl rfl rfl hc22) rfl rfl ?_
     refine QL.idle (Idle.undef rfl rfl rfl) rfl rfl ?_
     refine QL.idle (Idle.undef rfl rfl rfl) rfl rfl ?_
     refine QL.idle (Idle.undef rfl rfl rfl) rfl rfl ?_
     refine QL.idle (Idle.undef rfl rfl rfl) rfl rfl ?_
     refine QL.idle (Idle.undef rfl rfl rfl) rfl rfl ?_
     refine QL.idle (Idle.undef rfl rfl rfl) rfl rfl ?_
     refine QL.idle (Idle.undef rfl rfl rfl) rfl rfl ?_
     refine QL.idle (Idle.undef rfl rfl rfl) rfl rfl ?_
     refine QL.idle (Idle.undef rfl rfl rfl) rfl rfl ?_
     refine QL.idle (Idle.undef rfl rfl rfl) rfl rfl ?_
     refine QL.idle (Idle.undef rfl rfl rfl) rfl rfl ?_
     refine QL.idle (Idle.undef rfl rfl rfl) rfl rfl ?_
     refine QL.idle (Idle.undef rfl rfl rfl) rfl rfl ?_
     refine QL.idle (Idle.no rfl rfl rfl hc22) rfl rfl ?_
     refine qf rfl (ov_pick_true rfl (guard_eq rfl hc22) rfl) ?_
     exact QL.nil (Sub.cons' rfl (congrArg Value.bool (Option.some.inj hm)) (Sub.dropn 21 rfl))
    replace hm := ite_f hc22 e19
    refine qy hc22 rfl (ov_move rfl rfl) ?_
    refine qy hc22 rfl (ov_move rfl rfl) ?_
    obtain ⟨x5, e20, hm⟩ := bind_some hm
    obtain ⟨h30, h31, h32, cs5, h33, h34⟩ := h7.get e20 (by decide)
    obtain rfl : cs5 = [(.int .i64 x5)] := h33
    refine qy hc22 rfl (ov_indexAddr underlying39 sizeOf3 rfl rfl rfl h30 h31 h32) ?_
    refine qy hc22 rfl (ov_load_elem (v := (.int .i64 x5)) isAgg3 rfl rfl h34) ?_
    refine qy hc22 rfl (ov_gtr rfl rfl rfl) ?_
    refine qy hc22 rfl (ov_move rfl rfl) ?_
    obtain ⟨c5, e21, hm⟩ := bind_some hm
    refine QL.part_bool 14 144 (x := c5) ?_ ?_
    ·
     rcases Bool.eq_false_or_eq_true (decide (x5 > 1)) with hc23 | hc23
     ·
      replace hm := ite_t hc23 e21
      refine qy hc23 rfl (ov_move rfl rfl) ?_
      refine qy hc23 rfl (ov_move rfl rfl) ?_
      obtain ⟨x6, e22, hm⟩ := bind_some hm
      obtain ⟨h35, h36, h37, cs6, h38, h39⟩ := h7.get e22 (by decide)
      obtain rfl : cs6 = [(.int .i64 x6)] := h38
      refine qy hc23 rfl (ov_indexAddr underlying39 sizeOf3 rfl rfl rfl h35 h36 h37) ?_
      refine qy hc23 rfl (ov_load_elem (v := (.int .i64 x6)) isAgg3 rfl rfl h39) ?_
      refine qy hc23 rfl (ov_sub rfl rfl rfl) ?_
      refine qy hc23 rfl (ov_move rfl rfl) ?_
      refine qy hc23 rfl (ov_convert_int underlying68 underlying3 rfl rfl) ?_
      refine qy hc23 rfl (ov_mul rfl rfl rfl) ?_
      refine qy hc23 rfl (ov_move rfl rfl) ?_
      refine qy hc23 rfl (ov_move rfl rfl) ?_
      obtain ⟨x7, e23, hm⟩ := bind_some hm
      obtain ⟨h40, h41, h42, cs7, h43, h44⟩ := h2.get e23 (by decide)
      obtain rfl : cs7 = [(.int .i64 x7)] := h43
      refine qy hc23 rfl (ov_indexAddr underlying39 sizeOf3 rfl rfl rfl h40 h41 h42) ?_
      refine qy hc23 rfl (ov_load_elem (v := (.int .i64 x7)) isAgg3 rfl rfl h44) ?_
      refine qy hc23 rfl (ov_geq rfl rfl rfl) ?_
      refine qy hc22 rfl (ov_pick_true rfl (guard_eq rfl hc23) rfl) ?_
      exact QL.nil (Sub.cons' rfl (congrArg Value.bool (Option.some.inj hm)) (Sub.dropn 14 rfl))
     replace hm := ite_f hc23 e21
     refine QL.idle (Idle.no rfl rfl rfl hc23) rfl rfl ?_
     refine QL.idle (Idle.no rfl rfl rfl hc23) rfl rfl ?_
     refine QL.idle (Idle.no rfl rfl rfl hc23) rfl rfl ?_
     refine QL.idle (Idle.no rfl rfl rfl hc23) rfl rfl ?_
     refine QL.idle (Idle.no rfl rfl rfl hc23) rfl rfl ?_
     refine QL.idle (Idle.no rfl rfl rfl hc23) rfl rfl ?_
     refine QL.idle (Idle.no rfl rfl rfl hc23) rfl rfl ?_
     refine QL.idle (Idle.no rfl rfl rfl hc23) rfl rfl ?_
     refine QL.idle (Idle.no rfl rfl rfl hc23) rfl rfl ?_
     refine QL.idle (Idle.no rfl rfl rfl hc23) rfl rfl ?_
     refine QL.idle (Idle.no rfl rfl rfl hc23) rfl rfl ?_
     refine QL.idle (Idle.no rfl rfl rfl hc23) rfl rfl ?_
     refine QL.idle (Idle.no rfl rfl rfl hc23) rfl rfl ?_
     refine qy hc22 rfl (ov_pick_false rfl (guard_eq rfl hc23) rfl) ?_
     exact QL.nil (Sub.cons' rfl (congrArg Value.bool (Option.some.inj hm)) (Sub.dropn 14 rfl))
    refine qf rfl (ov_pick_false rfl (guard_eq rfl hc22) rfl) ?_
    exact QL.nil (Sub.cons' rfl (congrArg Value.bool (Option.some.inj hm)) (Sub.dropn 8 rfl))
   refine QL.nil ?_
   refine tn ?_
   refine WP.cond rfl (fun hc24 => ?_) (fun hc24 => ?_)
   ·
    replace hm := ite_t hc24 hm
    refine WP.seq (WP.region (Va rfl (WL.nil (tn (WP.ret (block_ret (then_ret (then_ret (block_ret (then_ret ?_))))))))))
    obtain rfl := Option.some.inj hm
    refine retQ_ret results10 (Res.tmp rfl Res.nil) rfl (fun w' s => ⟨s.below, ?_⟩)
    exact rfl
   replace hm := ite_f hc24 hm
   refine WP.skip (bn (tn (WP.region (V rfl (ov_add rfl rfl rfl) (Vm rfl (WL.nil (tn ?_)))))))
   exact ⟨(IntKind.wrap .i64 (i1 + 1)), (Sub.all rfl), fun w' s => (s.select [1] (by decide) rfl), hm⟩
  replace hm := ite_f hc17 hm
  refine WP.exit (then_exit (then_exit (block_here (tn ?_))))
  exact ⟨(Sub.all rfl), fun w' s => (s.select [] (by decide) rfl), hm⟩
 rintro g' S' ⟨hsub2, hS2, hm⟩
 refine WP.sub hsub2 (WP.weaken hS2 ?_)
 replace hm := hk1.symm.trans hm
 refine WP.seq (WP.region ?_)
 obtain ⟨r12, e24, hm⟩ := bind_some hm
 refine wo rfl (oq_con (r := (.bool r12)) call12 rfl rfl (fun w' s => ⟨_, (law16_awake_con   w' H4 s.hold hG r12 e24)⟩)) ?_
 refine Va rfl (WL.nil (tn (WP.ret ?_)))
 obtain rfl := Option.some.inj hm
 refine retQ_ret results10 (Res.tmp rfl Res.nil) rfl (fun w' s => ⟨s.below, ?_⟩)
 exact rfl
end Go.Proofs.YtbckcjjffbgidaaGreatDoor.W
