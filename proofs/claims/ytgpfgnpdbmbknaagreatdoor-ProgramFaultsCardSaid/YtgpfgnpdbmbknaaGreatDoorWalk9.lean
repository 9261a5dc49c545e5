import Derived.Test.YtgpfgnpdbmbknaaGreatDoorPlain
import Derived.Test.YtgpfgnpdbmbknaaGreatDoorEqs
import Derived.Test.YtgpfgnpdbmbknaaGreatDoorProg
import Derived.Test.YtgpfgnpdbmbknaaGreatDoorExt
import Derived.Test.YtgpfgnpdbmbknaaGreatDoorClone
import Derived.Test.YtgpfgnpdbmbknaaGreatDoorSort
import Derived.Test.YtgpfgnpdbmbknaaGreatDoorWalk4
import Derived.Test.YtgpfgnpdbmbknaaGreatDoorWalk5
import Derived.Test.YtgpfgnpdbmbknaaGreatDoorWalk6
import Derived.Test.YtgpfgnpdbmbknaaGreatDoorWalk7
import Derived.Test.YtgpfgnpdbmbknaaGreatDoorWalk8
set_option linter.unusedVariables false
set_option maxRecDepth 100000
set_option maxHeartbeats 4000000
namespace Go.Proofs.YtgpfgnpdbmbknaaGreatDoor.W
open Go Go.RowKit Go.Proofs.Tryz
theorem law15_ProgramFaults_con (p_x : Node) (ao1 : Option Addr) (cap1 : Nat) (ao2 : Option Addr) (cap2 : Nat) (w : World) (H : Heap) (hH : Le H (hp w)) (h1 : SL H encStroke ao1 p_x.step.strokes) (hc1 : p_x.step.strokes.length ≤ cap1) (h2 : SL H encNode ao2 p_x.nodes) (hc2 : p_x.nodes.length ≤ cap2) (hG : Glob H) (r : Bool) (hm : law15_ProgramFaults p_x = some r) :
  Con prog 8 [(.agg #[(.int .i64 p_x.kind), (.slice ao1 p_x.step.strokes.length cap1), (.int .i64 p_x.step.wait), (.int .i64 p_x.count), (mkS p_x.name), (.slice ao2 p_x.nodes.length cap2)])] w H (fun v _ => v = (.bool r)) := by
 unfold law15_ProgramFaults at hm
 refine con_of hH func8 rfl 65 ntmps8 rfl ?_
 refine WP.seq (WP.region ?_)
 refine ws rfl (os_box (cs := [(.int .i64 p_x.kind), (.slice ao1 p_x.step.strokes.length cap1), (.int .i64 p_x.step.wait), (.int .i64 p_x.count), (mkS p_x.name), (.slice ao2 p_x.nodes.length cap2)]) rfl rfl rfl (fun b1 => ?_))
 refine Va rfl (WL.nil (tn (WP.seq (WP.seq (WP.region (V rfl (ov_load_whole (i := 0) isAgg28 sizeOf28 rfl rfl rfl rfl) ?_))))))
 obtain ⟨r1, e1, hm⟩ := bind_some hm
 refine wo rfl (oq_con (r := (.bool r1)) call15 rfl rfl (fun w' s => ⟨_, (law15_few_con p_x [] ao1 cap1 ao2 cap2 none 0  w' H s.hold h1 hc1 h2 hc2 (SL.nil _ _ _) (Nat.le_refl _) hG r1 e1)⟩)) ?_
 refine V rfl (ov_not rfl rfl) (WL.nil (tn ?_))
 refine WP.cond rfl (fun hc3 => ?_) (fun hc3 => ?_)
 ·
  replace hm := ite_t hc3 hm
  refine WP.seq (WP.region ?_)
  obtain ⟨r2, e2, hm⟩ := bind_some hm
  refine wo rfl (oq_con (r := (.bool r2)) call11 rfl rfl (fun w' s => ⟨_, (law15_awake_con   w' H s.hold hG r2 e2)⟩)) ?_
  refine Va rfl (WL.nil (tn (WP.ret (then_ret ?_))))
  obtain rfl := Option.some.inj hm
  refine retQ_ret results8 (Res.tmp rfl Res.nil) rfl (fun w' s => ⟨s.below, ?_⟩)
  exact rfl
 replace hm := ite_f hc3 hm
 refine WP.skip (tn (WP.seq (WP.region (V rfl (ov_load_whole (i := 0) isAgg28 sizeOf28 rfl rfl rfl rfl) ?_))))
 obtain ⟨r3, e3, hm⟩ := bind_some hm
 refine ws rfl (os_con call25 rfl rfl (fun w' s => (program_Faulty_con p_x ao1 cap1 ao2 cap2  w' H s.hold h1 hc1 h2 hc2 hG r3 e3)) (fun rr1 H1 hle1 hR1 => ?_))
 replace h1 := h1.mono hle1
 replace h2 := h2.mono hle1
 replace hG := hG.mono hle1
 obtain ⟨ao3, cap3, rfl, h3, hc4⟩ := hR1
 refine Vm rfl (Ve rfl (Ve rfl (Ve rfl (Va rfl (Va rfl (Va rfl (WL.nil (tn (WP.seq (WP.region (V rfl (ov_load_whole (i := 0) isAgg28 sizeOf28 rfl rfl rfl rfl) ?_)))))))))))
 obtain ⟨r4, e4, hm⟩ := bind_some hm
 refine ws rfl (os_con call35 rfl rfl (fun w' s => (ref15_Faulty_con p_x ao1 cap1 ao2 cap2  w' H1 s.hold h1 hc1 h2 hc2 hG r4 e4)) (fun rr2 H2 hle2 hR2 => ?_))
 replace h1 := h1.mono hle2
 replace h2 := h2.mono hle2
 replace h3 := h3.mono hle2
 replace hG := hG.mono hle2
 obtain ⟨ao4, cap4, rfl, h4, hc5⟩ := hR2
 refine Vm rfl (Ve rfl (Ve rfl (Ve rfl (Va rfl (Va rfl (Va rfl (WL.nil (tn (WP.seq (WP.region (V rfl (ov_load_whole (i := 0) isAgg28 sizeOf28 rfl rfl rfl rfl) ?_)))))))))))
 obtain ⟨r5, e5, hm⟩ := bind_some hm
 refine ws rfl (os_con call36 rfl rfl (fun w' s => (program_Normal_con p_x ao1 cap1 ao2 cap2  w' H2 s.hold h1 hc1 h2 hc2 hG r5 e5)) (fun rr3 H3 hle3 hR3 => ?_))
 replace h1 := h1.mono hle3
 replace h2 := h2.mono hle3
 replace h3 := h3.mono hle3
 replace h4 := h4.mono hle3
 replace hG := hG.mono hle3
 obtain ⟨ao5, cap5, ao6, cap6, rfl, h5, hc6, h6, hc7⟩ := hR3
 refine Vm rfl (Ve rfl (Ve rfl ?_))
 refine ws rfl (os_alloc (cs := [(.int .i64 0), (.slice none 0 0), (.int .i64 0), (.int .i64 0), (mkS []), (.slice none 0 0)]) zeroValue28 rfl rfl (fun b2 => ?_))
 refine ws0 rfl (os_store (i := 0) (vs := [(.int .i64 r5.1.kind), (.slice ao5 r5.1.step.strokes.length cap5), (.int .i64 r5.1.step.wait), (.int .i64 r5.1.count), (mkS r5.1.name), (.slice ao6 r5.1.nodes.length cap6)]) (cs' := [(.int .i64 r5.1.kind), (.slice ao5 r5.1.step.strokes.length cap5), (.int .i64 r5.1.step.wait), (.int .i64 r5.1.count), (mkS r5.1.name), (.slice ao6 r5.1.nodes.length cap6)]) sizeOf28 rfl rfl rfl rfl rfl rfl rfl rfl rfl ?_)
 refine Va rfl (WL.nil (tn (WP.seq (WP.region (V rfl (ov_load_whole (i := 1) isAgg28 sizeOf28 rfl rfl rfl rfl) ?_)))))
 obtain ⟨r6, e6, hm⟩ := bind_some hm
 refine ws rfl (os_con call37 rfl rfl (fun w' s => (ref15_Normal_con p_x ao1 cap1 ao2 cap2  w' H3 s.hold h1 hc1 h2 hc2 hG r6 e6)) (fun rr4 H4 hle4 hR4 => ?_))
 replace h3 := h3.mono hle4
 replace h4 := h4.mono hle4
 replace h5 := h5.mono hle4
 replace h6 := h6.mono hle4
 replace hG := hG.mono hle4
 obtain ⟨ao7, cap7, ao8, cap8, rfl, h7, hc8, h8, hc9⟩ := hR4
 refine Vm rfl (Ve rfl (Ve rfl ?_))
 refine ws rfl (os_alloc (cs := [(.int .i64 0), (.slice none 0 0), (.int .i64 0), (.int .i64 0), (mkS []), (.slice none 0 0)]) zeroValue28 rfl rfl (fun b3 => ?_))
 refine ws0 rfl (os_store (i := 0) (vs := [(.int .i64 r6.1.kind), (.slice ao7 r6.1.step.strokes.length cap7), (.int .i64 r6.1.step.wait), (.int .i64 r6.1.count), (mkS r6.1.name), (.slice ao8 r6.1.nodes.length cap8)]) (cs' := [(.int .i64 r6.1.kind), (.slice ao7 r6.1.step.strokes.length cap7), (.int .i64 r6.1.step.wait), (.int .i64 r6.1.count), (mkS r6.1.name), (.slice ao8 r6.1.nodes.length cap8)]) sizeOf28 rfl rfl rfl rfl rfl rfl rfl rfl rfl ?_)
 refine Va rfl (WL.nil (tn (WP.seq (WP.region ?_))))
 obtain ⟨r7, e7, hm⟩ := bind_some hm
 refine wo rfl (oq_con (r := (.bool r7)) call11 rfl rfl (fun w' s => ⟨_, (law15_awake_con   w' H4 s.hold hG r7 e7)⟩)) ?_
 refine Vm rfl ?_
 obtain ⟨c1, e8, hm⟩ := bind_some hm
 refine WL.cut_bool 4 44 (x := c1) ?_ ?_
 ·
  rcases Bool.eq_false_or_eq_true r7 with hc10 | hc10
  ·
   replace hm := ite_t hc10 e8
   refine wy hc10 rfl (ov_move rfl rfl) ?_
   refine wy hc10 rfl (ov_move rfl rfl) ?_
   obtain ⟨r8, e9, hm⟩ := bind_some hm
   refine WL.quiet (Runs.yes rfl rfl rfl hc10) rfl rfl (oq_con (r := (.bool r8)) call33 rfl rfl (fun w' s => ⟨_, (slices_Equal_stringstring_con r3.1 r4.1 ao3 cap3 ao4 cap4  w' H4 s.hold h3 hc4 h4 hc5 hG r8 e9)⟩)) ?_
   refine V rfl (ov_pick_true rfl (guard_eq rfl hc10) rfl) ?_
   exact WL.nil ⟨Sub.cons' rfl (congrArg Value.bool (Option.some.inj hm)) (Sub.dropn 4 rfl), fun _ s => s⟩
  replace hm := ite_f hc10 e8
  refine Vi rfl (Idle.no rfl rfl rfl hc10) (Vi rfl (Idle.no rfl rfl rfl hc10) (Vi rfl (Idle.no rfl rfl rfl hc10) (V rfl (ov_pick_false rfl (guard_eq rfl hc10) rfl) ?_)))
  exact WL.nil ⟨Sub.cons' rfl (congrArg Value.bool (Option.some.inj hm)) (Sub.dropn 4 rfl), fun _ s => s⟩
 refine Vm rfl ?_
 refine WL.cut_bool 4 49 (x := (c1 && (r3.2.1 == r4.2.1))) ?_ ?_
 ·
  rcases Bool.eq_false_or_eq_true c1 with hc11 | hc11
  ·
   refine wy hc11 rfl (ov_move rfl rfl) ?_
   refine wy hc11 rfl (ov_move rfl rfl) ?_
   refine wy hc11 rfl (ov_eql rfl rfl rfl) ?_
   refine V rfl (ov_pick_true rfl (guard_eq rfl hc11) rfl) ?_
   exact WL.nil ⟨Sub.cons' rfl (congrArg Value.bool (andT hc11)) (Sub.dropn 4 rfl), fun _ s => s⟩
  refine Vi rfl (Idle.no rfl rfl rfl hc11) (Vi rfl (Idle.no rfl rfl rfl hc11) (Vi rfl (Idle.no rfl rfl rfl hc11) (V rfl (ov_pick_false rfl (guard_eq rfl hc11) rfl) ?_)))
  exact WL.nil ⟨Sub.cons' rfl (congrArg Value.bool (andF hc11)) (Sub.dropn 4 rfl), fun _ s => s⟩
 refine Vm rfl ?_
 refine WL.cut_bool 4 54 (x := ((c1 && (r3.2.1 == r4.2.1)) && (r3.2.2 == r4.2.2))) ?_ ?_
 ·
  rcases Bool.eq_false_or_eq_true (c1 && (r3.2.1 == r4.2.1)) with hc12 | hc12
  ·
   refine wy hc12 rfl (ov_move rfl rfl) ?_
   refine wy hc12 rfl (ov_move rfl rfl) ?_
   refine wy hc12 rfl (ov_eql rfl rfl rfl) ?_
   refine V rfl (ov_pick_true rfl (guard_eq rfl hc12) rfl) ?_
   exact WL.nil ⟨Sub.cons' rfl (congrArg Value.bool (andT hc12)) (Sub.dropn 4 rfl), fun _ s => s⟩
  refine Vi rfl (Idle.no rfl rfl rfl hc12) (Vi rfl (Idle.no rfl rfl rfl hc12) (Vi rfl (Idle.no rfl rfl rfl hc12) (V rfl (ov_pick_false rfl (guard_eq rfl hc12) rfl) ?_)))
  exact WL.nil ⟨Sub.cons' rfl (congrArg Value.bool (andF hc12)) (Sub.dropn 4 rfl), fun _ s => s⟩
 refine Vm rfl ?_
 obtain ⟨c2, e10, hm⟩ := bind_some hm
 refine WL.cut_bool 4 59 (x := c2) ?_ ?_
 ·
  rcases Bool.eq_false_or_eq_true ((c1 && (r3.2.1 == r4.2.1)) && (r3.2.2 == r4.2.2)) with hc13 | hc13
  ·
   replace hm := ite_t hc13 e10
   refine wy hc13 rfl (ov_load_whole (i := 1) isAgg28 sizeOf28 rfl rfl rfl rfl) ?_
   refine wy hc13 rfl (ov_load_whole (i := 0) isAgg28 sizeOf28 rfl rfl rfl rfl) ?_
   obtain ⟨r9, e11, hm⟩ := bind_some hm
   refine WL.quiet (Runs.yes rfl rfl rfl hc13) rfl rfl (oq_con (r := (.bool r9)) call14 rfl rfl (fun w' s => ⟨_, (ref15_Same_con r5.1 r6.1 ao5 cap5 ao6 cap6 ao7 cap7 ao8 cap8  w' H4 s.hold h5 hc6 h6 hc7 h7 hc8 h8 hc9 hG r9 e11)⟩)) ?_
   refine V rfl (ov_pick_true rfl (guard_eq rfl hc13) rfl) ?_
   exact WL.nil ⟨Sub.cons' rfl (congrArg Value.bool (Option.some.inj hm)) (Sub.dropn 4 rfl), fun _ s => s⟩
  replace hm := ite_f hc13 e10
  refine Vi rfl (Idle.no rfl rfl rfl hc13) (Vi rfl (Idle.no rfl rfl rfl hc13) (Vi rfl (Idle.no rfl rfl rfl hc13) (V rfl (ov_pick_false rfl (guard_eq rfl hc13) rfl) ?_)))
  exact WL.nil ⟨Sub.cons' rfl (congrArg Value.bool (Option.some.inj hm)) (Sub.dropn 4 rfl), fun _ s => s⟩
 refine Vm rfl ?_
 refine WL.cut_bool 4 64 (x := (c2 && (r5.2 == r6.2))) ?_ ?_
 ·
  rcases Bool.eq_false_or_eq_true c2 with hc14 | hc14
  ·
   refine wy hc14 rfl (ov_move rfl rfl) ?_
   refine wy hc14 rfl (ov_move rfl rfl) ?_
   refine wy hc14 rfl (ov_eql rfl rfl rfl) ?_
   refine V rfl (ov_pick_true rfl (guard_eq rfl hc14) rfl) ?_
   exact WL.nil ⟨Sub.cons' rfl (congrArg Value.bool (andT hc14)) (Sub.dropn 4 rfl), fun _ s => s⟩
  refine Vi rfl (Idle.no rfl rfl rfl hc14) (Vi rfl (Idle.no rfl rfl rfl hc14) (Vi rfl (Idle.no rfl rfl rfl hc14) (V rfl (ov_pick_false rfl (guard_eq rfl hc14) rfl) ?_)))
  exact WL.nil ⟨Sub.cons' rfl (congrArg Value.bool (andF hc14)) (Sub.dropn 4 rfl), fun _ s => s⟩
 refine Va rfl (WL.nil (tn (WP.ret ?_)))
 obtain rfl := Option.some.inj hm
 refine retQ_ret results8 (Res.tmp rfl Res.nil) rfl (fun w' s => ⟨s.below, ?_⟩)
 exact rfl
end Go.Proofs.YtgpfgnpdbmbknaaGreatDoor.W
