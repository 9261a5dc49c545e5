/- The walks. Written by our own program gen.py; Lean checks it. -/
import Derived.Test.YtgpfgnpdbmbknaaGreatDoorPlain
import Derived.Test.YtgpfgnpdbmbknaaGreatDoorEqs
import Derived.Test.YtgpfgnpdbmbknaaGreatDoorProg
import Derived.Test.YtgpfgnpdbmbknaaGreatDoorExt
import Derived.Test.YtgpfgnpdbmbknaaGreatDoorClone
import Derived.Test.YtgpfgnpdbmbknaaGreatDoorSort
import Derived.Test.YtgpfgnpdbmbknaaGreatDoorWalk4
import Derived.Test.YtgpfgnpdbmbknaaGreatDoorWalk5
import Derived.Test.YtgpfgnpdbmbknaaGreatDoorWalk6
import Derived.Test.YtgpfgnpdbmbknaaGreatDoorWalk7
set_option linter.unusedVariables false
set_option maxRecDepth 100000
set_option maxHeartbeats 4000000
namespace Go.Proofs.YtgpfgnpdbmbknaaGreatDoor.W
open Go Go.RowKit Go.Proofs.Tryz
theorem law15_ProgramUnfolds_con (p_x : Node) (p_on : (List (List UInt8))) (ao1 : Option Addr) (cap1 : Nat) (ao2 : Option Addr) (cap2 : Nat) (ao3 : Option Addr) (cap3 : Nat) (w : World) (H : Heap) (hH : Le H (hp w)) (h1 : SL H encStroke ao1 p_x.step.strokes) (hc1 : p_x.step.strokes.length ≤ cap1) (h2 : SL H encNode ao2 p_x.nodes) (hc2 : p_x.nodes.length ≤ cap2) (h3 : SL H encStr ao3 p_on) (hc3 : p_on.length ≤ cap3) (hG : Glob H) (r : Bool) (hm : law15_ProgramUnfolds p_x p_on = some r) :
  Con prog 4 [(.agg #[(.int .i64 p_x.kind), (.slice ao1 p_x.step.strokes.length cap1), (.int .i64 p_x.step.wait), (.int .i64 p_x.count), (mkS p_x.name), (.slice ao2 p_x.nodes.length cap2)]), (.slice ao3 p_on.length cap3)] w H (fun v _ => v = (.bool r)) := by
 unfold law15_ProgramUnfolds at hm
 refine con_of hH func4 rfl 89 ntmps4 rfl ?_
 refine WP.seq (WP.region ?_)
 refine ws rfl (os_box (cs := [(.int .i64 p_x.kind), (.slice ao1 p_x.step.strokes.length cap1), (.int .i64 p_x.step.wait), (.int .i64 p_x.count), (mkS p_x.name), (.slice ao2 p_x.nodes.length cap2)]) rfl rfl rfl (fun b1 => ?_))
 refine wq rfl rfl rfl (ov_assign rfl rfl) ?_
 refine WL.nil (tn (WP.seq (WP.seq (WP.region ?_))))
 refine wq rfl rfl rfl (ov_load_whole (i := 0) isAgg28 sizeOf28 rfl rfl rfl rfl) ?_
 refine wq rfl rfl rfl (ov_move rfl rfl) ?_
 obtain ⟨r1, e1, hm⟩ := bind_some hm
 refine wo rfl (oq_con (r := (.bool r1)) call15 rfl rfl (fun w' s => ⟨_, (law15_few_con p_x p_on ao1 cap1 ao2 cap2 ao3 cap3  w' H s.hold h1 hc1 h2 hc2 h3 hc3 hG r1 e1)⟩)) ?_
 refine wq rfl rfl rfl (ov_not rfl rfl) ?_
 refine WL.nil (tn ?_)
 refine WP.cond rfl (fun hc4 => ?_) (fun hc4 => ?_)
 ·
  replace hm := ite_t hc4 hm
  refine WP.seq (WP.region ?_)
  obtain ⟨r2, e2, hm⟩ := bind_some hm
  refine wo rfl (oq_con (r := (.bool r2)) call11 rfl rfl (fun w' s => ⟨_, (law15_awake_con   w' H s.hold hG r2 e2)⟩)) ?_
  refine wq rfl rfl rfl (ov_assign rfl rfl) ?_
  refine WL.nil (tn (WP.ret (then_ret ?_)))
  obtain rfl := Option.some.inj hm
  refine retQ_ret results4 (Res.tmp rfl Res.nil) rfl (fun w' s => ⟨s.below, ?_⟩)
  exact rfl
 replace hm := ite_f hc4 hm
 refine WP.skip (tn (WP.seq (WP.region ?_)))
 refine wq rfl rfl rfl (ov_load_whole (i := 0) isAgg28 sizeOf28 rfl rfl rfl rfl) ?_
 refine wq rfl rfl rfl (ov_move rfl rfl) ?_
 obtain ⟨r3, e3, hm⟩ := bind_some hm
 refine wo rfl (oq_con (r := (.tuple #[(.int .i64 r3.1), (.int .i64 r3.2)])) call16 rfl rfl (fun w' s => ⟨_, (program_Length_con p_x p_on ao1 cap1 ao2 cap2 ao3 cap3  w' H s.hold h1 hc1 h2 hc2 h3 hc3 hG r3 e3)⟩)) ?_
 refine wq rfl rfl rfl (ov_move rfl rfl) ?_
 refine wq rfl rfl rfl (ov_extract rfl rfl rfl) ?_
 refine wq rfl rfl rfl (ov_extract rfl rfl rfl) ?_
 refine wq rfl rfl rfl (ov_assign rfl rfl) ?_
 refine wq rfl rfl rfl (ov_assign rfl rfl) ?_
 refine WL.nil (tn (WP.seq (WP.region ?_)))
 refine wq rfl rfl rfl (ov_load_whole (i := 0) isAgg28 sizeOf28 rfl rfl rfl rfl) ?_
 refine wq rfl rfl rfl (ov_move rfl rfl) ?_
 obtain ⟨r4, e4, hm⟩ := bind_some hm
 refine wo rfl (oq_con (r := (.tuple #[(.int .i64 r4.1), (.int .i64 r4.2)])) call17 rfl rfl (fun w' s => ⟨_, (ref15_Length_con p_x p_on ao1 cap1 ao2 cap2 ao3 cap3  w' H s.hold h1 hc1 h2 hc2 h3 hc3 hG r4 e4)⟩)) ?_
 refine wq rfl rfl rfl (ov_move rfl rfl) ?_
 refine wq rfl rfl rfl (ov_extract rfl rfl rfl) ?_
 refine wq rfl rfl rfl (ov_extract rfl rfl rfl) ?_
 refine wq rfl rfl rfl (ov_assign rfl rfl) ?_
 refine wq rfl rfl rfl (ov_assign rfl rfl) ?_
 refine WL.nil (tn (WP.seq (WP.region ?_)))
 refine wq rfl rfl rfl (ov_load_whole (i := 0) isAgg28 sizeOf28 rfl rfl rfl rfl) ?_
 refine wq rfl rfl rfl (ov_move rfl rfl) ?_
 obtain ⟨r5, e5, hm⟩ := bind_some hm
 refine ws rfl (os_con call18 rfl rfl (fun w' s => (program_Unfold_con p_x p_on ao1 cap1 ao2 cap2 ao3 cap3  w' H s.hold h1 hc1 h2 hc2 h3 hc3 hG r5 e5)) (fun rr1 H1 hle1 hR1 => ?_))
 replace h1 := h1.mono hle1
 replace h2 := h2.mono hle1
 replace h3 := h3.mono hle1
 replace hG := hG.mono hle1
 obtain ⟨ao4, cap4, rfl, h4, hc5⟩ := hR1
 refine wq rfl rfl rfl (ov_move rfl rfl) ?_
 refine wq rfl rfl rfl (ov_extract rfl rfl rfl) ?_
 refine wq rfl rfl rfl (ov_extract rfl rfl rfl) ?_
 refine wq rfl rfl rfl (ov_assign rfl rfl) ?_
 refine wq rfl rfl rfl (ov_assign rfl rfl) ?_
 refine WL.nil (tn (WP.seq (WP.region ?_)))
 refine wq rfl rfl rfl (ov_load_whole (i := 0) isAgg28 sizeOf28 rfl rfl rfl rfl) ?_
 refine wq rfl rfl rfl (ov_move rfl rfl) ?_
 obtain ⟨r6, e6, hm⟩ := bind_some hm
 refine ws rfl (os_con call19 rfl rfl (fun w' s => (ref15_Unfold_con p_x p_on ao1 cap1 ao2 cap2 ao3 cap3  w' H1 s.hold h1 hc1 h2 hc2 h3 hc3 hG r6 e6)) (fun rr2 H2 hle2 hR2 => ?_))
 replace h1 := h1.mono hle2
 replace h2 := h2.mono hle2
 replace h3 := h3.mono hle2
 replace h4 := h4.mono hle2
 replace hG := hG.mono hle2
 obtain ⟨ao5, cap5, rfl, h5, hc6⟩ := hR2
 refine wq rfl rfl rfl (ov_move rfl rfl) ?_
 refine wq rfl rfl rfl (ov_extract rfl rfl rfl) ?_
 refine wq rfl rfl rfl (ov_extract rfl rfl rfl) ?_
 refine wq rfl rfl rfl (ov_assign rfl rfl) ?_
 refine wq rfl rfl rfl (ov_assign rfl rfl) ?_
 refine WL.nil (tn (WP.seq (WP.region ?_)))
 refine wq rfl rfl rfl (ov_load_whole (i := 0) isAgg28 sizeOf28 rfl rfl rfl rfl) ?_
 refine wq rfl rfl rfl (ov_move rfl rfl) ?_
 obtain ⟨r7, e7, hm⟩ := bind_some hm
 refine ws rfl (os_con call20 rfl rfl (fun w' s => (program_Sequence_con p_x p_on ao1 cap1 ao2 cap2 ao3 cap3  w' H2 s.hold h1 hc1 h2 hc2 h3 hc3 hG r7 e7)) (fun rr3 H3 hle3 hR3 => ?_))
 replace h1 := h1.mono hle3
 replace h2 := h2.mono hle3
 replace h3 := h3.mono hle3
 replace h4 := h4.mono hle3
 replace h5 := h5.mono hle3
 replace hG := hG.mono hle3
 obtain ⟨ao6, cap6, rfl, h6, hc7⟩ := hR3
 refine wq rfl rfl rfl (ov_move rfl rfl) ?_
 refine wq rfl rfl rfl (ov_extract rfl rfl rfl) ?_
 refine wq rfl rfl rfl (ov_extract rfl rfl rfl) ?_
 refine ws rfl (os_alloc (cs := [(.int .i64 0), (.slice none 0 0)]) zeroValue48 rfl rfl (fun b2 => ?_))
 refine ws0 rfl (os_store (i := 0) (vs := [(.int .i64 r7.1.actuators), (.slice ao6 r7.1.steps.length cap6)]) (cs' := [(.int .i64 r7.1.actuators), (.slice ao6 r7.1.steps.length cap6)]) sizeOf48 rfl rfl rfl rfl rfl rfl rfl rfl rfl ?_)
 refine wq rfl rfl rfl (ov_assign rfl rfl) ?_
 refine WL.nil (tn (WP.seq (WP.region ?_)))
 refine wq rfl rfl rfl (ov_load_whole (i := 1) isAgg28 sizeOf28 rfl rfl rfl rfl) ?_
 refine wq rfl rfl rfl (ov_move rfl rfl) ?_
 obtain ⟨r8, e8, hm⟩ := bind_some hm
 refine ws rfl (os_con call21 rfl rfl (fun w' s => (ref15_Sequence_con p_x p_on ao1 cap1 ao2 cap2 ao3 cap3  w' H3 s.hold h1 hc1 h2 hc2 h3 hc3 hG r8 e8)) (fun rr4 H4 hle4 hR4 => ?_))
 replace h4 := h4.mono hle4
 replace h5 := h5.mono hle4
 replace h6 := h6.mono hle4
 replace hG := hG.mono hle4
 obtain ⟨ao7, cap7, rfl, h7, hc8⟩ := hR4
 refine wq rfl rfl rfl (ov_move rfl rfl) ?_
 refine wq rfl rfl rfl (ov_extract rfl rfl rfl) ?_
 refine wq rfl rfl rfl (ov_extract rfl rfl rfl) ?_
 refine ws rfl (os_alloc (cs := [(.int .i64 0), (.slice none 0 0)]) zeroValue48 rfl rfl (fun b3 => ?_))
 refine ws0 rfl (os_store (i := 0) (vs := [(.int .i64 r8.1.actuators), (.slice ao7 r8.1.steps.length cap7)]) (cs' := [(.int .i64 r8.1.actuators), (.slice ao7 r8.1.steps.length cap7)]) sizeOf48 rfl rfl rfl rfl rfl rfl rfl rfl rfl ?_)
 refine wq rfl rfl rfl (ov_assign rfl rfl) ?_
 refine WL.nil (tn (WP.seq (WP.region ?_)))
 obtain ⟨r9, e9, hm⟩ := bind_some hm
 refine wo rfl (oq_con (r := (.bool r9)) call11 rfl rfl (fun w' s => ⟨_, (law15_awake_con   w' H4 s.hold hG r9 e9)⟩)) ?_
 refine wq rfl rfl rfl (ov_move rfl rfl) ?_
 refine WL.cut_bool 4 63 (x := (r9 && (r3.1 == r4.1))) ?_ ?_
 ·
  rcases Bool.eq_false_or_eq_true r9 with hc9 | hc9
  ·
   refine wy hc9 rfl (ov_move rfl rfl) ?_
   refine wy hc9 rfl (ov_move rfl rfl) ?_
   refine wy hc9 rfl (ov_eql rfl rfl rfl) ?_
   refine wq rfl rfl rfl (ov_pick_true rfl (guard_eq rfl hc9) rfl) ?_
   exact WL.nil ⟨Sub.cons' rfl (congrArg Value.bool (andT hc9)) (Sub.dropn 4 rfl), fun _ s => s⟩
  refine WL.idle (Idle.no rfl rfl rfl hc9) rfl rfl ?_
  refine WL.idle (Idle.no rfl rfl rfl hc9) rfl rfl ?_
  refine WL.idle (Idle.no rfl rfl rfl hc9) rfl rfl ?_
  refine wq rfl rfl rfl (ov_pick_false rfl (guard_eq rfl hc9) rfl) ?_
  exact WL.nil ⟨Sub.cons' rfl (congrArg Value.bool (andF hc9)) (Sub.dropn 4 rfl), fun _ s => s⟩
 refine wq rfl rfl rfl (ov_move rfl rfl) ?_
 refine WL.cut_bool 4 68 (x := ((r9 && (r3.1 == r4.1)) && (r3.2 == r4.2))) ?_ ?_
 ·
  rcases Bool.eq_false_or_eq_true (r9 && (r3.1 == r4.1)) with hc10 | hc10
  ·
   refine wy hc10 rfl (ov_move rfl rfl) ?_
   refine wy hc10 rfl (ov_move rfl rfl) ?_
   refine wy hc10 rfl (ov_eql rfl rfl rfl) ?_
   refine wq rfl rfl rfl (ov_pick_true rfl (guard_eq rfl hc10) rfl) ?_
   exact WL.nil ⟨Sub.cons' rfl (congrArg Value.bool (andT hc10)) (Sub.dropn 4 rfl), fun _ s => s⟩
  refine WL.idle (Idle.no rfl rfl rfl hc10) rfl rfl ?_
  refine WL.idle (Idle.no rfl rfl rfl hc10) rfl rfl ?_
  refine WL.idle (Idle.no rfl rfl rfl hc10) rfl rfl ?_
  refine wq rfl rfl rfl (ov_pick_false rfl (guard_eq rfl hc10) rfl) ?_
  exact WL.nil ⟨Sub.cons' rfl (congrArg Value.bool (andF hc10)) (Sub.dropn 4 rfl), fun _ s => s⟩
 refine wq rfl rfl rfl (ov_move rfl rfl) ?_
 obtain ⟨c1, e10, hm⟩ := bind_some hm
 refine WL.cut_bool 4 73 (x := c1) ?_ ?_
 ·
  rcases Bool.eq_false_or_eq_true ((r9 && (r3.1 == r4.1)) && (r3.2 == r4.2)) with hc11 | hc11
  ·
   replace hm := ite_t hc11 e10
   refine wy hc11 rfl (ov_move rfl rfl) ?_
   refine wy hc11 rfl (ov_move rfl rfl) ?_
   obtain ⟨r10, e11, hm⟩ := bind_some hm
   refine WL.quiet (Runs.yes rfl rfl rfl hc11) rfl rfl (oq_con (r := (.bool r10)) call22 rfl rfl (fun w' s => ⟨_, (ref13_SameSteps_con r5.1 r6.1 ao4 cap4 ao5 cap5  w' H4 s.hold h4 hc5 h5 hc6 hG r10 e11)⟩)) ?_
   refine wq rfl rfl rfl (ov_pick_true rfl (guard_eq rfl hc11) rfl) ?_
   exact WL.nil ⟨Sub.cons' rfl (congrArg Value.bool (Option.some.inj hm)) (Sub.dropn 4 rfl), fun _ s => s⟩
  replace hm := ite_f hc11 e10
  refine WL.idle (Idle.no rfl rfl rfl hc11) rfl rfl ?_
  refine WL.idle (Idle.no rfl rfl rfl hc11) rfl rfl ?_
  refine WL.idle (Idle.no rfl rfl rfl hc11) rfl rfl ?_
  refine wq rfl rfl rfl (ov_pick_false rfl (guard_eq rfl hc11) rfl) ?_
  exact WL.nil ⟨Sub.cons' rfl (congrArg Value.bool (Option.some.inj hm)) (Sub.dropn 4 rfl), fun _ s => s⟩
 refine wq rfl rfl rfl (ov_move rfl rfl) ?_
 refine WL.cut_bool 4 78 (x := (c1 && (r5.2 == r6.2))) ?_ ?_
 ·
  rcases Bool.eq_false_or_eq_true c1 with hc12 | hc12
  ·
   refine wy hc12 rfl (ov_move rfl rfl) ?_
   refine wy hc12 rfl (ov_move rfl rfl) ?_
   refine wy hc12 rfl (ov_eql rfl rfl rfl) ?_
   refine wq rfl rfl rfl (ov_pick_true rfl (guard_eq rfl hc12) rfl) ?_
   exact WL.nil ⟨Sub.cons' rfl (congrArg Value.bool (andT hc12)) (Sub.dropn 4 rfl), fun _ s => s⟩
  refine WL.idle (Idle.no rfl rfl rfl hc12) rfl rfl ?_
  refine WL.idle (Idle.no rfl rfl rfl hc12) rfl rfl ?_
  refine WL.idle (Idle.no rfl rfl rfl hc12) rfl rfl ?_
  refine wq rfl rfl rfl (ov_pick_false rfl (guard_eq rfl hc12) rfl) ?_
  exact WL.nil ⟨Sub.cons' rfl (congrArg Value.bool (andF hc12)) (Sub.dropn 4 rfl), fun _ s => s⟩
 refine wq rfl rfl rfl (ov_move rfl rfl) ?_
 obtain ⟨c2, e12, hm⟩ := bind_some hm
 refine WL.cut_bool 4 83 (x := c2) ?_ ?_
 ·
  rcases Bool.eq_false_or_eq_true (c1 && (r5.2 == r6.2)) with hc13 | hc13
  ·
   replace hm := ite_t hc13 e12
   refine wy hc13 rfl (ov_load_whole (i := 1) isAgg48 sizeOf48 rfl rfl rfl rfl) ?_
   refine wy hc13 rfl (ov_load_whole (i := 0) isAgg48 sizeOf48 rfl rfl rfl rfl) ?_
   obtain ⟨r11, e13, hm⟩ := bind_some hm
   refine WL.quiet (Runs.yes rfl rfl rfl hc13) rfl rfl (oq_con (r := (.bool r11)) call23 rfl rfl (fun w' s => ⟨_, (ref14_Same_con r7.1 r8.1 ao6 cap6 ao7 cap7  w' H4 s.hold h6 hc7 h7 hc8 hG r11 e13)⟩)) ?_
   refine wq rfl rfl rfl (ov_pick_true rfl (guard_eq rfl hc13) rfl) ?_
   exact WL.nil ⟨Sub.cons' rfl (congrArg Value.bool (Option.some.inj hm)) (Sub.dropn 4 rfl), fun _ s => s⟩
  replace hm := ite_f hc13 e12
  refine WL.idle (Idle.no rfl rfl rfl hc13) rfl rfl ?_
  refine WL.idle (Idle.no rfl rfl rfl hc13) rfl rfl ?_
  refine WL.idle (Idle.no rfl rfl rfl hc13) rfl rfl ?_
  refine wq rfl rfl rfl (ov_pick_false rfl (guard_eq rfl hc13) rfl) ?_
  exact WL.nil ⟨Sub.cons' rfl (congrArg Value.bool (Option.some.inj hm)) (Sub.dropn 4 rfl), fun _ s => s⟩
 refine wq rfl rfl rfl (ov_move rfl rfl) ?_
 refine WL.cut_bool 4 88 (x := (c2 && (r7.2 == r8.2))) ?_ ?_
 ·
  rcases Bool.eq_false_or_eq_true c2 with hc14 | hc14
  ·
   refine wy hc14 rfl (ov_move rfl rfl) ?_
   refine wy hc14 rfl (ov_move rfl rfl) ?_
   refine wy hc14 rfl (ov_eql rfl rfl rfl) ?_
   refine wq rfl rfl rfl (ov_pick_true rfl (guard_eq rfl hc14) rfl) ?_
   exact WL.nil ⟨Sub.cons' rfl (congrArg Value.bool (andT hc14)) (Sub.dropn 4 rfl), fun _ s => s⟩
  refine WL.idle (Idle.no rfl rfl rfl hc14) rfl rfl ?_
  refine WL.idle (Idle.no rfl rfl rfl hc14) rfl rfl ?_
  refine WL.idle (Idle.no rfl rfl rfl hc14) rfl rfl ?_
  refine wq rfl rfl rfl (ov_pick_false rfl (guard_eq rfl hc14) rfl) ?_
  exact WL.nil ⟨Sub.cons' rfl (congrArg Value.bool (andF hc14)) (Sub.dropn 4 rfl), fun _ s => s⟩
 refine wq rfl rfl rfl (ov_assign rfl rfl) ?_
 refine WL.nil (tn (WP.ret ?_))
 obtain rfl := Option.some.inj hm
 refine retQ_ret results4 (Res.tmp rfl Res.nil) rfl (fun w' s => ⟨s.below, ?_⟩)
 exact rfl
end Go.Proofs.YtgpfgnpdbmbknaaGreatDoor.W
