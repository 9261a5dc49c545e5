import Derived.Test.YtgpfgnpdbmbknaaGreatDoorPlain
import Derived.Test.YtgpfgnpdbmbknaaGreatDoorEqs
import Derived.Test.YtgpfgnpdbmbknaaGreatDoorProg
import Derived.Test.YtgpfgnpdbmbknaaGreatDoorExt
import Derived.Test.YtgpfgnpdbmbknaaGreatDoorClone
import Derived.Test.YtgpfgnpdbmbknaaGreatDoorSort
import Derived.Test.YtgpfgnpdbmbknaaGreatDoorWalk4
import Derived.Test.YtgpfgnpdbmbknaaGreatDoorWalk5
import Derived.Test.YtgpfgnpdbmbknaaGreatDoorWalk6
set_option linter.unusedVariables false
set_option maxRecDepth 100000
set_option maxHeartbeats 4000000
namespace Go.Proofs.YtgpfgnpdbmbknaaGreatDoor.W
open Go Go.RowKit Go.Proofs.Tryz
theorem law15_ProgramNormal_con (p_x : Node) (p_on : (List (List UInt8))) (ao1 : Option Addr) (cap1 : Nat) (ao2 : Option Addr) (cap2 : Nat) (ao3 : Option Addr) (cap3 : Nat) (w : World) (H : Heap) (hH : Le H (hp w)) (h1 : SL H encStroke ao1 p_x.step.strokes) (hc1 : p_x.step.strokes.length ≤ cap1) (h2 : SL H encNode ao2 p_x.nodes) (hc2 : p_x.nodes.length ≤ cap2) (h3 : SL H encStr ao3 p_on) (hc3 : p_on.length ≤ cap3) (hG : Glob H) (r : Bool) (hm : law15_ProgramNormal p_x p_on = some r) :
  Con prog 9 [(.agg #[(.int .i64 p_x.kind), (.slice ao1 p_x.step.strokes.length cap1), (.int .i64 p_x.step.wait), (.int .i64 p_x.count), (mkS p_x.name), (.slice ao2 p_x.nodes.length cap2)]), (.slice ao3 p_on.length cap3)] w H (fun v _ => v = (.bool r)) := by
 unfold law15_ProgramNormal at hm
 refine con_of hH func9 rfl 122 ntmps9 rfl ?_
 refine WP.seq (WP.region ?_)
 refine ws rfl (os_box (cs := [(.int .i64 p_x.kind), (.slice ao1 p_x.step.strokes.length cap1), (.int .i64 p_x.step.wait), (.int .i64 p_x.count), (mkS p_x.name), (.slice ao2 p_x.nodes.length cap2)]) rfl rfl rfl (fun b1 => ?_))
 refine Va rfl (WL.nil (tn (WP.seq (WP.seq (WP.region (V rfl (ov_load_whole (i := 0) isAgg28 sizeOf28 rfl rfl rfl rfl) (Vm rfl ?_)))))))
 obtain ⟨r1, e1, hm⟩ := bind_some hm
 refine wo rfl (oq_con (r := (.bool r1)) call24 rfl rfl (fun w' s => ⟨_, (law15_right_con p_x p_on ao1 cap1 ao2 cap2 ao3 cap3  w' H s.hold h1 hc1 h2 hc2 h3 hc3 hG r1 e1)⟩)) ?_
 refine V rfl (ov_not rfl rfl) (WL.nil (tn ?_))
 refine WP.cond rfl (fun hc4 => ?_) (fun hc4 => ?_)
 ·
  replace hm := ite_t hc4 hm
  refine WP.seq (WP.region ?_)
  obtain ⟨r2, e2, hm⟩ := bind_some hm
  refine wo rfl (oq_con (r := (.bool r2)) call11 rfl rfl (fun w' s => ⟨_, (law15_awake_con   w' H s.hold hG r2 e2)⟩)) ?_
  refine Va rfl (WL.nil (tn (WP.ret (then_ret ?_))))
  obtain rfl := Option.some.inj hm
  refine retQ_ret results9 (Res.tmp rfl Res.nil) rfl (fun w' s => ⟨s.below, ?_⟩)
  exact rfl
 replace hm := ite_f hc4 hm
 refine WP.skip (tn (WP.seq (WP.region (V rfl (ov_load_whole (i := 0) isAgg28 sizeOf28 rfl rfl rfl rfl) ?_))))
 obtain ⟨r3, e3, hm⟩ := bind_some hm
 refine ws rfl (os_con call36 rfl rfl (fun w' s => (program_Normal_con p_x ao1 cap1 ao2 cap2  w' H s.hold h1 hc1 h2 hc2 hG r3 e3)) (fun rr1 H1 hle1 hR1 => ?_))
 replace h1 := h1.mono hle1
 replace h2 := h2.mono hle1
 replace h3 := h3.mono hle1
 replace hG := hG.mono hle1
 obtain ⟨ao4, cap4, ao5, cap5, rfl, h4, hc5, h5, hc6⟩ := hR1
 refine Vm rfl (Ve rfl (Ve rfl ?_))
 refine ws rfl (os_alloc (cs := [(.int .i64 0), (.slice none 0 0), (.int .i64 0), (.int .i64 0), (mkS []), (.slice none 0 0)]) zeroValue28 rfl rfl (fun b2 => ?_))
 refine ws0 rfl (os_store (i := 0) (vs := [(.int .i64 r3.1.kind), (.slice ao4 r3.1.step.strokes.length cap4), (.int .i64 r3.1.step.wait), (.int .i64 r3.1.count), (mkS r3.1.name), (.slice ao5 r3.1.nodes.length cap5)]) (cs' := [(.int .i64 r3.1.kind), (.slice ao4 r3.1.step.strokes.length cap4), (.int .i64 r3.1.step.wait), (.int .i64 r3.1.count), (mkS r3.1.name), (.slice ao5 r3.1.nodes.length cap5)]) sizeOf28 rfl rfl rfl rfl rfl rfl rfl rfl rfl ?_)
 refine Va rfl (WL.nil (tn (WP.seq (WP.seq (WP.region (Vm rfl (V rfl (ov_neq rfl rfl rfl) (Vm rfl ?_))))))))
 obtain ⟨c1, e4, hm⟩ := bind_some hm
 refine WL.cut_bool 4 36 (x := c1) ?_ ?_
 ·
  rcases Bool.eq_false_or_eq_true (r3.2 != 0) with hc7 | hc7
  ·
   replace hm := ite_t hc7 e4
   refine Vi rfl (Idle.no rfl rfl rfl hc7) (Vi rfl (Idle.no rfl rfl rfl hc7) (Vi rfl (Idle.no rfl rfl rfl hc7) (V rfl (ov_pick_true rfl (guard_eq rfl hc7) rfl) ?_)))
   exact WL.nil ⟨Sub.cons' rfl (congrArg Value.bool (Option.some.inj hm)) (Sub.dropn 4 rfl), fun _ s => s⟩
  replace hm := ite_f hc7 e4
  refine wy hc7 rfl (ov_load_whole (i := 0) isAgg28 sizeOf28 rfl rfl rfl rfl) ?_
  obtain ⟨r4, e5, hm⟩ := bind_some hm
  refine WL.quiet (Runs.yes rfl rfl rfl hc7) rfl rfl (oq_con (r := (.bool r4)) call38 rfl rfl (fun w' s => ⟨_, (ref15_Light_con r3.1 ao4 cap4 ao5 cap5  w' H1 s.hold h4 hc5 h5 hc6 hG r4 e5)⟩)) ?_
  refine wy hc7 rfl (ov_not rfl rfl) ?_
  refine V rfl (ov_pick_false rfl (guard_eq rfl hc7) rfl) ?_
  exact WL.nil ⟨Sub.cons' rfl (congrArg Value.bool (Option.some.inj hm)) (Sub.dropn 4 rfl), fun _ s => s⟩
 refine WL.nil (tn ?_)
 refine WP.cond rfl (fun hc8 => ?_) (fun hc8 => ?_)
 ·
  replace hm := ite_t hc8 hm
  refine WP.seq (WP.region (Va rfl (WL.nil (tn (WP.ret (then_ret ?_))))))
  obtain rfl := Option.some.inj hm
  refine retQ_ret results9 (Res.tmp rfl Res.nil) rfl (fun w' s => ⟨s.below, ?_⟩)
  exact rfl
 replace hm := ite_f hc8 hm
 refine WP.skip (tn (WP.seq (WP.region (V rfl (ov_load_whole (i := 0) isAgg28 sizeOf28 rfl rfl rfl rfl) ?_))))
 obtain ⟨r5, e6, hm⟩ := bind_some hm
 refine ws rfl (os_con call36 rfl rfl (fun w' s => (program_Normal_con r3.1 ao4 cap4 ao5 cap5  w' H1 s.hold h4 hc5 h5 hc6 hG r5 e6)) (fun rr2 H2 hle2 hR2 => ?_))
 replace h1 := h1.mono hle2
 replace h2 := h2.mono hle2
 replace h3 := h3.mono hle2
 replace h4 := h4.mono hle2
 replace h5 := h5.mono hle2
 replace hG := hG.mono hle2
 obtain ⟨ao6, cap6, ao7, cap7, rfl, h6, hc9, h7, hc10⟩ := hR2
 refine Vm rfl (Ve rfl (Ve rfl ?_))
 refine ws rfl (os_alloc (cs := [(.int .i64 0), (.slice none 0 0), (.int .i64 0), (.int .i64 0), (mkS []), (.slice none 0 0)]) zeroValue28 rfl rfl (fun b3 => ?_))
 refine ws0 rfl (os_store (i := 0) (vs := [(.int .i64 r5.1.kind), (.slice ao6 r5.1.step.strokes.length cap6), (.int .i64 r5.1.step.wait), (.int .i64 r5.1.count), (mkS r5.1.name), (.slice ao7 r5.1.nodes.length cap7)]) (cs' := [(.int .i64 r5.1.kind), (.slice ao6 r5.1.step.strokes.length cap6), (.int .i64 r5.1.step.wait), (.int .i64 r5.1.count), (mkS r5.1.name), (.slice ao7 r5.1.nodes.length cap7)]) sizeOf28 rfl rfl rfl rfl rfl rfl rfl rfl rfl ?_)
 refine Va rfl (WL.nil (tn (WP.seq (WP.region (V rfl (ov_load_whole (i := 2) isAgg28 sizeOf28 rfl rfl rfl rfl) (Vm rfl ?_))))))
 obtain ⟨r6, e7, hm⟩ := bind_some hm
 refine ws rfl (os_con call18 rfl rfl (fun w' s => (program_Unfold_con p_x p_on ao1 cap1 ao2 cap2 ao3 cap3  w' H2 s.hold h1 hc1 h2 hc2 h3 hc3 hG r6 e7)) (fun rr3 H3 hle3 hR3 => ?_))
 replace h1 := h1.mono hle3
 replace h2 := h2.mono hle3
 replace h3 := h3.mono hle3
 replace h4 := h4.mono hle3
 replace h5 := h5.mono hle3
 replace h6 := h6.mono hle3
 replace h7 := h7.mono hle3
 replace hG := hG.mono hle3
 obtain ⟨ao8, cap8, rfl, h8, hc11⟩ := hR3
 refine Vm rfl (Ve rfl (Ve rfl (Va rfl (Va rfl (WL.nil (tn (WP.seq (WP.region (V rfl (ov_load_whole (i := 1) isAgg28 sizeOf28 rfl rfl rfl rfl) (Vm rfl ?_))))))))))
 obtain ⟨r7, e8, hm⟩ := bind_some hm
 refine ws rfl (os_con call18 rfl rfl (fun w' s => (program_Unfold_con r3.1 p_on ao4 cap4 ao5 cap5 ao3 cap3  w' H3 s.hold h4 hc5 h5 hc6 h3 hc3 hG r7 e8)) (fun rr4 H4 hle4 hR4 => ?_))
 replace h1 := h1.mono hle4
 replace h2 := h2.mono hle4
 replace h3 := h3.mono hle4
 replace h4 := h4.mono hle4
 replace h5 := h5.mono hle4
 replace h6 := h6.mono hle4
 replace h7 := h7.mono hle4
 replace h8 := h8.mono hle4
 replace hG := hG.mono hle4
 obtain ⟨ao9, cap9, rfl, h9, hc12⟩ := hR4
 refine Vm rfl (Ve rfl (Ve rfl (Va rfl (Va rfl (WL.nil (tn (WP.seq (WP.region (V rfl (ov_load_whole (i := 2) isAgg28 sizeOf28 rfl rfl rfl rfl) (Vm rfl ?_))))))))))
 obtain ⟨r8, e9, hm⟩ := bind_some hm
 refine wo rfl (oq_con (r := (.tuple #[(.int .i64 r8.1), (.int .i64 r8.2)])) call16 rfl rfl (fun w' s => ⟨_, (program_Length_con p_x p_on ao1 cap1 ao2 cap2 ao3 cap3  w' H4 s.hold h1 hc1 h2 hc2 h3 hc3 hG r8 e9)⟩)) ?_
 refine Vm rfl (Ve rfl (Ve rfl (Va rfl (Va rfl (WL.nil (tn (WP.seq (WP.region (V rfl (ov_load_whole (i := 1) isAgg28 sizeOf28 rfl rfl rfl rfl) (Vm rfl ?_))))))))))
 obtain ⟨r9, e10, hm⟩ := bind_some hm
 refine wo rfl (oq_con (r := (.tuple #[(.int .i64 r9.1), (.int .i64 r9.2)])) call16 rfl rfl (fun w' s => ⟨_, (program_Length_con r3.1 p_on ao4 cap4 ao5 cap5 ao3 cap3  w' H4 s.hold h4 hc5 h5 hc6 h3 hc3 hG r9 e10)⟩)) ?_
 refine Vm rfl (Ve rfl (Ve rfl (Va rfl (Va rfl (WL.nil (tn (WP.seq (WP.region (V rfl (ov_load_whole (i := 2) isAgg28 sizeOf28 rfl rfl rfl rfl) ?_)))))))))
 obtain ⟨r10, e11, hm⟩ := bind_some hm
 refine ws rfl (os_con call29 rfl rfl (fun w' s => (program_Inputs_con p_x ao1 cap1 ao2 cap2  w' H4 s.hold h1 hc1 h2 hc2 hG r10 e11)) (fun rr5 H5 hle5 hR5 => ?_))
 replace h1 := h1.mono hle5
 replace h2 := h2.mono hle5
 replace h4 := h4.mono hle5
 replace h5 := h5.mono hle5
 replace h6 := h6.mono hle5
 replace h7 := h7.mono hle5
 replace h8 := h8.mono hle5
 replace h9 := h9.mono hle5
 replace hG := hG.mono hle5
 obtain ⟨ao10, cap10, rfl, h10, hc13⟩ := hR5
 refine Vm rfl (Ve rfl (Ve rfl (Va rfl (Va rfl (WL.nil (tn (WP.seq (WP.region (V rfl (ov_load_whole (i := 1) isAgg28 sizeOf28 rfl rfl rfl rfl) ?_)))))))))
 obtain ⟨r11, e12, hm⟩ := bind_some hm
 refine ws rfl (os_con call29 rfl rfl (fun w' s => (program_Inputs_con r3.1 ao4 cap4 ao5 cap5  w' H5 s.hold h4 hc5 h5 hc6 hG r11 e12)) (fun rr6 H6 hle6 hR6 => ?_))
 replace h1 := h1.mono hle6
 replace h2 := h2.mono hle6
 replace h4 := h4.mono hle6
 replace h5 := h5.mono hle6
 replace h6 := h6.mono hle6
 replace h7 := h7.mono hle6
 replace h8 := h8.mono hle6
 replace h9 := h9.mono hle6
 replace h10 := h10.mono hle6
 replace hG := hG.mono hle6
 obtain ⟨ao11, cap11, rfl, h11, hc14⟩ := hR6
 refine Vm rfl (Ve rfl (Ve rfl (Va rfl (Va rfl (WL.nil (tn (WP.seq ?_)))))))
 refine WP.region_draws (by kernel_rfl) (by kernel_rfl) (fun _ s => s.drew) ?_
 refine qf rfl (ov_move rfl rfl) ?_
 refine qf rfl (ov_move rfl rfl) ?_
 refine qf rfl (ov_add rfl rfl rfl) ?_
 refine qf rfl (ov_move rfl rfl) ?_
 refine qf rfl (ov_add rfl rfl rfl) ?_
 refine qf rfl (ov_eql rfl rfl rfl) ?_
 refine qf rfl (ov_move rfl rfl) ?_
 refine QL.part_bool 4 86 (x := (((IntKind.wrap .i64 ((IntKind.wrap .i64 (r5.2 + r10.2)) + r11.2)) == 0) && (r6.2 == r7.2))) ?_ ?_
 ·
  rcases Bool.eq_false_or_eq_true ((IntKind.wrap .i64 ((IntKind.wrap .i64 (r5.2 + r10.2)) + r11.2)) == 0) with hc15 | hc15
  ·
   refine qy hc15 rfl (ov_move rfl rfl) ?_
   refine qy hc15 rfl (ov_move rfl rfl) ?_
   refine qy hc15 rfl (ov_eql rfl rfl rfl) ?_
   refine qf rfl (ov_pick_true rfl (guard_eq rfl hc15) rfl) ?_
   exact QL.nil (Sub.cons' rfl (congrArg Value.bool (andT hc15)) (Sub.dropn 4 rfl))
  refine QL.idle (Idle.no rfl rfl rfl hc15) rfl rfl ?_
  refine QL.idle (Idle.no rfl rfl rfl hc15) rfl rfl ?_
  refine QL.idle (Idle.no rfl rfl rfl hc15) rfl rfl ?_
  refine qf rfl (ov_pick_false rfl (guard_eq rfl hc15) rfl) ?_
  exact QL.nil (Sub.cons' rfl (congrArg Value.bool (andF hc15)) (Sub.dropn 4 rfl))
 refine qf rfl (ov_move rfl rfl) ?_
 refine QL.part_bool 4 91 (x := ((((IntKind.wrap .i64 ((IntKind.wrap .i64 (r5.2 + r10.2)) + r11.2)) == 0) && (r6.2 == r7.2)) && (r8.2 == r9.2))) ?_ ?_
 ·
  rcases Bool.eq_false_or_eq_true (((IntKind.wrap .i64 ((IntKind.wrap .i64 (r5.2 + r10.2)) + r11.2)) == 0) && (r6.2 == r7.2)) with hc16 | hc16
  ·
   refine qy hc16 rfl (ov_move rfl rfl) ?_
   refine qy hc16 rfl (ov_move rfl rfl) ?_
   refine qy hc16 rfl (ov_eql rfl rfl rfl) ?_
   refine qf rfl (ov_pick_true rfl (guard_eq rfl hc16) rfl) ?_
   exact QL.nil (Sub.cons' rfl (congrArg Value.bool (andT hc16)) (Sub.dropn 4 rfl))
  refine QL.idle (Idle.no rfl rfl rfl hc16) rfl rfl ?_
  refine QL.idle (Idle.no rfl rfl rfl hc16) rfl rfl ?_
  refine QL.idle (Idle.no rfl rfl rfl hc16) rfl rfl ?_
  refine qf rfl (ov_pick_false rfl (guard_eq rfl hc16) rfl) ?_
  exact QL.nil (Sub.cons' rfl (congrArg Value.bool (andF hc16)) (Sub.dropn 4 rfl))
 refine qf rfl (ov_move rfl rfl) ?_
 refine QL.part_bool 4 96 (x := (((((IntKind.wrap .i64 ((IntKind.wrap .i64 (r5.2 + r10.2)) + r11.2)) == 0) && (r6.2 == r7.2)) && (r8.2 == r9.2)) && (r8.1 == r9.1))) ?_ ?_
 ·
  rcases Bool.eq_false_or_eq_true ((((IntKind.wrap .i64 ((IntKind.wrap .i64 (r5.2 + r10.2)) + r11.2)) == 0) && (r6.2 == r7.2)) && (r8.2 == r9.2)) with hc17 | hc17
  ·
   refine qy hc17 rfl (ov_move rfl rfl) ?_
   refine qy hc17 rfl (ov_move rfl rfl) ?_
   refine qy hc17 rfl (ov_eql rfl rfl rfl) ?_
   refine qf rfl (ov_pick_true rfl (guard_eq rfl hc17) rfl) ?_
   exact QL.nil (Sub.cons' rfl (congrArg Value.bool (andT hc17)) (Sub.dropn 4 rfl))
  refine QL.idle (Idle.no rfl rfl rfl hc17) rfl rfl ?_
  refine QL.idle (Idle.no rfl rfl rfl hc17) rfl rfl ?_
  refine QL.idle (Idle.no rfl rfl rfl hc17) rfl rfl ?_
  refine qf rfl (ov_pick_false rfl (guard_eq rfl hc17) rfl) ?_
  exact QL.nil (Sub.cons' rfl (congrArg Value.bool (andF hc17)) (Sub.dropn 4 rfl))
 refine qf rfl (ov_move rfl rfl) ?_
 obtain ⟨c2, e13, hm⟩ := bind_some hm
 refine QL.part_bool 4 101 (x := c2) ?_ ?_
 ·
  rcases Bool.eq_false_or_eq_true (((((IntKind.wrap .i64 ((IntKind.wrap .i64 (r5.2 + r10.2)) + r11.2)) == 0) && (r6.2 == r7.2)) && (r8.2 == r9.2)) && (r8.1 == r9.1)) with hc18 | hc18
  ·
   replace hm := ite_t hc18 e13
   refine qy hc18 rfl (ov_load_whole (i := 1) isAgg28 sizeOf28 rfl rfl rfl rfl) ?_
   refine qy hc18 rfl (ov_load_whole (i := 0) isAgg28 sizeOf28 rfl rfl rfl rfl) ?_
   obtain ⟨r12, e14, hm⟩ := bind_some hm
   refine QL.quiet (Runs.yes rfl rfl rfl hc18) rfl rfl (oq_con (r := (.bool r12)) call14 rfl rfl (fun w' s => ⟨_, (ref15_Same_con r3.1 r5.1 ao4 cap4 ao5 cap5 ao6 cap6 ao7 cap7  w' H6 s.hold h4 hc5 h5 hc6 h6 hc9 h7 hc10 hG r12 e14)⟩)) ?_
   refine qf rfl (ov_pick_true rfl (guard_eq rfl hc18) rfl) ?_
   exact QL.nil (Sub.cons' rfl (congrArg Value.bool (Option.some.inj hm)) (Sub.dropn 4 rfl))
  replace hm := ite_f hc18 e13
  refine QL.idle (Idle.no rfl rfl rfl hc18) rfl rfl ?_
  refine QL.idle (Idle.no rfl rfl rfl hc18) rfl rfl ?_
  refine QL.idle (Idle.no rfl rfl rfl hc18) rfl rfl ?_
  refine qf rfl (ov_pick_false rfl (guard_eq rfl hc18) rfl) ?_
  exact QL.nil (Sub.cons' rfl (congrArg Value.bool (Option.some.inj hm)) (Sub.dropn 4 rfl))
 refine qf rfl (ov_move rfl rfl) ?_
 obtain ⟨c3, e15, hm⟩ := bind_some hm
 refine QL.part_bool 6 108 (x := c3) ?_ ?_
 ·
  rcases Bool.eq_false_or_eq_true c2 with hc19 | hc19
  ·
   replace hm := ite_t hc19 e15
   refine qy hc19 rfl (ov_load_whole (i := 1) isAgg28 sizeOf28 rfl rfl rfl rfl) ?_
   obtain ⟨r13, e16, hm⟩ := bind_some hm
   refine QL.quiet (Runs.yes rfl rfl rfl hc19) rfl rfl (oq_con (r := (.int .i64 r13)) call39 rfl rfl (fun w' s => ⟨_, (law15_nodes_con 600 r3.1 ao4 cap4 ao5 cap5  w' H6 s.hold h4 hc5 h5 hc6 hG r13 e16)⟩)) ?_
   refine qy hc19 rfl (ov_load_whole (i := 2) isAgg28 sizeOf28 rfl rfl rfl rfl) ?_
   obtain ⟨r14, e17, hm⟩ := bind_some hm
   refine QL.quiet (Runs.yes rfl rfl rfl hc19) rfl rfl (oq_con (r := (.int .i64 r14)) call39 rfl rfl (fun w' s => ⟨_, (law15_nodes_con 600 p_x ao1 cap1 ao2 cap2  w' H6 s.hold h1 hc1 h2 hc2 hG r14 e17)⟩)) ?_
   refine qy hc19 rfl (ov_leq rfl rfl rfl) ?_
   refine qf rfl (ov_pick_true rfl (guard_eq rfl hc19) rfl) ?_
   exact QL.nil (Sub.cons' rfl (congrArg Value.bool (Option.some.inj hm)) (Sub.dropn 6 rfl))
  replace hm := ite_f hc19 e15
  refine QL.idle (Idle.no rfl rfl rfl hc19) rfl rfl ?_
  refine QL.idle (Idle.no rfl rfl rfl hc19) rfl rfl ?_
  refine QL.idle (Idle.no rfl rfl rfl hc19) rfl rfl ?_
  refine QL.idle (Idle.no rfl rfl rfl hc19) rfl rfl ?_
  refine QL.idle (Idle.no rfl rfl rfl hc19) rfl rfl ?_
  refine qf rfl (ov_pick_false rfl (guard_eq rfl hc19) rfl) ?_
  exact QL.nil (Sub.cons' rfl (congrArg Value.bool (Option.some.inj hm)) (Sub.dropn 6 rfl))
 refine qf rfl (ov_move rfl rfl) ?_
 obtain ⟨c4, e18, hm⟩ := bind_some hm
 refine QL.part_bool 4 113 (x := c4) ?_ ?_
 ·
  rcases Bool.eq_false_or_eq_true c3 with hc20 | hc20
  ·
   replace hm := ite_t hc20 e18
   refine qy hc20 rfl (ov_move rfl rfl) ?_
   refine qy hc20 rfl (ov_move rfl rfl) ?_
   obtain ⟨r15, e19, hm⟩ := bind_some hm
   refine QL.quiet (Runs.yes rfl rfl rfl hc20) rfl rfl (oq_con (r := (.bool r15)) call22 rfl rfl (fun w' s => ⟨_, (ref13_SameSteps_con r6.1 r7.1 ao8 cap8 ao9 cap9  w' H6 s.hold h8 hc11 h9 hc12 hG r15 e19)⟩)) ?_
   refine qf rfl (ov_pick_true rfl (guard_eq rfl hc20) rfl) ?_
   exact QL.nil (Sub.cons' rfl (congrArg Value.bool (Option.some.inj hm)) (Sub.dropn 4 rfl))
  replace hm := ite_f hc20 e18
  refine QL.idle (Idle.no rfl rfl rfl hc20) rfl rfl ?_
  refine QL.idle (Idle.no rfl rfl rfl hc20) rfl rfl ?_
  refine QL.idle (Idle.no rfl rfl rfl hc20) rfl rfl ?_
  refine qf rfl (ov_pick_false rfl (guard_eq rfl hc20) rfl) ?_
  exact QL.nil (Sub.cons' rfl (congrArg Value.bool (Option.some.inj hm)) (Sub.dropn 4 rfl))
 refine qf rfl (ov_move rfl rfl) ?_
 obtain ⟨c5, e20, hm⟩ := bind_some hm
 refine QL.part_bool 4 118 (x := c5) ?_ ?_
 ·
  rcases Bool.eq_false_or_eq_true c4 with hc21 | hc21
  ·
   replace hm := ite_t hc21 e20
   refine qy hc21 rfl (ov_move rfl rfl) ?_
   refine qy hc21 rfl (ov_move rfl rfl) ?_
   obtain ⟨r16, e21, hm⟩ := bind_some hm
   refine QL.quiet (Runs.yes rfl rfl rfl hc21) rfl rfl (oq_con (r := (.bool r16)) call33 rfl rfl (fun w' s => ⟨_, (slices_Equal_stringstring_con r10.1 r11.1 ao10 cap10 ao11 cap11  w' H6 s.hold h10 hc13 h11 hc14 hG r16 e21)⟩)) ?_
   refine qf rfl (ov_pick_true rfl (guard_eq rfl hc21) rfl) ?_
   exact QL.nil (Sub.cons' rfl (congrArg Value.bool (Option.some.inj hm)) (Sub.dropn 4 rfl))
  replace hm := ite_f hc21 e20
  refine QL.idle (Idle.no rfl rfl rfl hc21) rfl rfl ?_
  refine QL.idle (Idle.no rfl rfl rfl hc21) rfl rfl ?_
  refine QL.idle (Idle.no rfl rfl rfl hc21) rfl rfl ?_
  refine qf rfl (ov_pick_false rfl (guard_eq rfl hc21) rfl) ?_
  exact QL.nil (Sub.cons' rfl (congrArg Value.bool (Option.some.inj hm)) (Sub.dropn 4 rfl))
 refine qf rfl (ov_move rfl rfl) ?_
 obtain ⟨c6, e22, hm⟩ := bind_some hm
 refine QL.part_bool 2 121 (x := c6) ?_ ?_
 ·
  rcases Bool.eq_false_or_eq_true c5 with hc22 | hc22
  ·
   replace hm := ite_t hc22 e22
   obtain ⟨r17, e23, hm⟩ := bind_some hm
   refine QL.quiet (Runs.yes rfl rfl rfl hc22) rfl rfl (oq_con (r := (.bool r17)) call11 rfl rfl (fun w' s => ⟨_, (law15_awake_con   w' H6 s.hold hG r17 e23)⟩)) ?_
   refine qf rfl (ov_pick_true rfl (guard_eq rfl hc22) rfl) ?_
   exact QL.nil (Sub.cons' rfl (congrArg Value.bool (Option.some.inj hm)) (Sub.dropn 2 rfl))
  replace hm := ite_f hc22 e22
  refine QL.idle (Idle.no rfl rfl rfl hc22) rfl rfl ?_
  refine qf rfl (ov_pick_false rfl (guard_eq rfl hc22) rfl) ?_
  exact QL.nil (Sub.cons' rfl (congrArg Value.bool (Option.some.inj hm)) (Sub.dropn 2 rfl))
 refine qf rfl (ov_assign rfl rfl) ?_
 refine QL.nil ?_
 refine tn (WP.ret ?_)
 obtain rfl := Option.some.inj hm
 refine retQ_ret results9 (Res.tmp rfl Res.nil) rfl (fun w' s => ⟨s.below, ?_⟩)
 exact rfl
end Go.Proofs.YtgpfgnpdbmbknaaGreatDoor.W
