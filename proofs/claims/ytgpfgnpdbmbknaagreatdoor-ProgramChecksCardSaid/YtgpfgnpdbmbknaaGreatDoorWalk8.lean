/- The walks. Written by our own program gen.py; Lean checks it. -/
import Derived.Test.YtgpfgnpdbmbknaaGreatDoorPlain
import Derived.Test.YtgpfgnpdbmbknaaGreatDoorEqs
import Derived.Test.YtgpfgnpdbmbknaaGreatDoorProg
import Derived.Test.YtgpfgnpdbmbknaaGreatDoorExt
import Derived.Test.YtgpfgnpdbmbknaaGreatDoorClone
import Derived.Test.YtgpfgnpdbmbknaaGreatDoorSort
import Derived.Test.YtgpfgnpdbmbknaaGreatDoorWalk2
import Derived.Test.YtgpfgnpdbmbknaaGreatDoorWalk5
import Derived.Test.YtgpfgnpdbmbknaaGreatDoorWalk6
import Derived.Test.YtgpfgnpdbmbknaaGreatDoorWalk7
set_option linter.unusedVariables false
set_option maxRecDepth 100000
set_option maxHeartbeats 4000000
namespace Go.Proofs.YtgpfgnpdbmbknaaGreatDoor.W
open Go Go.RowKit Go.Proofs.Tryz
theorem law15_ProgramChecks_con (p_x : Node) (p_y : Node) (ao1 : Option Addr) (cap1 : Nat) (ao2 : Option Addr) (cap2 : Nat) (ao3 : Option Addr) (cap3 : Nat) (ao4 : Option Addr) (cap4 : Nat) (w : World) (H : Heap) (hH : Le H (hp w)) (h1 : SL H encStroke ao1 p_x.step.strokes) (hc1 : p_x.step.strokes.length ≤ cap1) (h2 : SL H encNode ao2 p_x.nodes) (hc2 : p_x.nodes.length ≤ cap2) (h3 : SL H encStroke ao3 p_y.step.strokes) (hc3 : p_y.step.strokes.length ≤ cap3) (h4 : SL H encNode ao4 p_y.nodes) (hc4 : p_y.nodes.length ≤ cap4) (hG : Glob H) (r : Bool) (hm : law15_ProgramChecks p_x p_y = some r) :
  Con prog 6 [(.agg #[(.int .i64 p_x.kind), (.slice ao1 p_x.step.strokes.length cap1), (.int .i64 p_x.step.wait), (.int .i64 p_x.count), (mkS p_x.name), (.slice ao2 p_x.nodes.length cap2)]), (.agg #[(.int .i64 p_y.kind), (.slice ao3 p_y.step.strokes.length cap3), (.int .i64 p_y.step.wait), (.int .i64 p_y.count), (mkS p_y.name), (.slice ao4 p_y.nodes.length cap4)])] w H (fun v _ => v = (.bool r)) := by
 unfold law15_ProgramChecks at hm
 refine con_of hH func6 rfl 79 ntmps6 rfl ?_
 refine WP.seq (WP.region ?_)
 refine ws rfl (os_box (cs := [(.int .i64 p_x.kind), (.slice ao1 p_x.step.strokes.length cap1), (.int .i64 p_x.step.wait), (.int .i64 p_x.count), (mkS p_x.name), (.slice ao2 p_x.nodes.length cap2)]) rfl rfl rfl (fun b1 => ?_))
 refine ws rfl (os_box (cs := [(.int .i64 p_y.kind), (.slice ao3 p_y.step.strokes.length cap3), (.int .i64 p_y.step.wait), (.int .i64 p_y.count), (mkS p_y.name), (.slice ao4 p_y.nodes.length cap4)]) rfl rfl rfl (fun b2 => ?_))
 refine wq rfl rfl rfl (ov_assign rfl rfl) ?_
 refine WL.nil (tn (WP.seq (WP.seq (WP.region ?_))))
 refine wq rfl rfl rfl (ov_load_whole (i := 1) isAgg28 sizeOf28 rfl rfl rfl rfl) ?_
 obtain ⟨r1, e1, hm⟩ := bind_some hm
 refine wo rfl (oq_con (r := (.bool r1)) call15 rfl rfl (fun w' s => ⟨_, (law15_few_con p_x [] ao1 cap1 ao2 cap2 none 0  w' H s.hold h1 hc1 h2 hc2 (SL.nil _ _ _) (Nat.le_refl _) hG r1 e1)⟩)) ?_
 refine wq rfl rfl rfl (ov_not rfl rfl) ?_
 refine wq rfl rfl rfl (ov_move rfl rfl) ?_
 obtain ⟨c1, e2, hm⟩ := bind_some hm
 refine WL.cut_bool 4 20 (x := c1) ?_ ?_
 ·
  rcases Bool.eq_false_or_eq_true (!r1) with hc5 | hc5
  ·
   replace hm := ite_t hc5 e2
   refine WL.idle (Idle.no rfl rfl rfl hc5) rfl rfl ?_
   refine WL.idle (Idle.no rfl rfl rfl hc5) rfl rfl ?_
   refine WL.idle (Idle.no rfl rfl rfl hc5) rfl rfl ?_
   refine wq rfl rfl rfl (ov_pick_true rfl (guard_eq rfl hc5) rfl) ?_
   exact WL.nil ⟨Sub.cons' rfl (congrArg Value.bool (Option.some.inj hm)) (Sub.dropn 4 rfl), fun _ s => s⟩
  replace hm := ite_f hc5 e2
  refine wy hc5 rfl (ov_load_whole (i := 0) isAgg28 sizeOf28 rfl rfl rfl rfl) ?_
  obtain ⟨r2, e3, hm⟩ := bind_some hm
  refine WL.quiet (Runs.yes rfl rfl rfl hc5) rfl rfl (oq_con (r := (.bool r2)) call15 rfl rfl (fun w' s => ⟨_, (law15_few_con p_y [] ao3 cap3 ao4 cap4 none 0  w' H s.hold h3 hc3 h4 hc4 (SL.nil _ _ _) (Nat.le_refl _) hG r2 e3)⟩)) ?_
  refine wy hc5 rfl (ov_not rfl rfl) ?_
  refine wq rfl rfl rfl (ov_pick_false rfl (guard_eq rfl hc5) rfl) ?_
  exact WL.nil ⟨Sub.cons' rfl (congrArg Value.bool (Option.some.inj hm)) (Sub.dropn 4 rfl), fun _ s => s⟩
 refine WL.nil (tn ?_)
 refine WP.cond rfl (fun hc6 => ?_) (fun hc6 => ?_)
 ·
  replace hm := ite_t hc6 hm
  refine WP.seq (WP.region ?_)
  obtain ⟨r3, e4, hm⟩ := bind_some hm
  refine wo rfl (oq_con (r := (.bool r3)) call11 rfl rfl (fun w' s => ⟨_, (law15_awake_con   w' H s.hold hG r3 e4)⟩)) ?_
  refine wq rfl rfl rfl (ov_assign rfl rfl) ?_
  refine WL.nil (tn (WP.ret (then_ret ?_)))
  obtain rfl := Option.some.inj hm
  refine retQ_ret results6 (Res.tmp rfl Res.nil) rfl (fun w' s => ⟨s.below, ?_⟩)
  exact rfl
 replace hm := ite_f hc6 hm
 refine WP.skip (tn (WP.seq (WP.region ?_)))
 refine wq rfl rfl rfl (ov_load_whole (i := 1) isAgg28 sizeOf28 rfl rfl rfl rfl) ?_
 obtain ⟨r4, e5, hm⟩ := bind_some hm
 refine wo rfl (oq_con (r := (.tuple #[(mkS r4.1), (.int .i64 r4.2)])) call27 rfl rfl (fun w' s => ⟨_, (program_Format_con p_x ao1 cap1 ao2 cap2  w' H s.hold h1 hc1 h2 hc2 hG r4 e5)⟩)) ?_
 refine wq rfl rfl rfl (ov_move rfl rfl) ?_
 refine wq rfl rfl rfl (ov_extract rfl rfl rfl) ?_
 refine wq rfl rfl rfl (ov_extract rfl rfl rfl) ?_
 refine wq rfl rfl rfl (ov_assign rfl rfl) ?_
 refine wq rfl rfl rfl (ov_assign rfl rfl) ?_
 refine WL.nil (tn (WP.seq (WP.region ?_)))
 refine wq rfl rfl rfl (ov_load_whole (i := 1) isAgg28 sizeOf28 rfl rfl rfl rfl) ?_
 obtain ⟨r5, e6, hm⟩ := bind_some hm
 refine wo rfl (oq_con (r := (.tuple #[(mkS r5.1), (.int .i64 r5.2)])) call28 rfl rfl (fun w' s => ⟨_, (ref15_Format_con p_x ao1 cap1 ao2 cap2  w' H s.hold h1 hc1 h2 hc2 hG r5 e6)⟩)) ?_
 refine wq rfl rfl rfl (ov_move rfl rfl) ?_
 refine wq rfl rfl rfl (ov_extract rfl rfl rfl) ?_
 refine wq rfl rfl rfl (ov_extract rfl rfl rfl) ?_
 refine wq rfl rfl rfl (ov_assign rfl rfl) ?_
 refine wq rfl rfl rfl (ov_assign rfl rfl) ?_
 refine WL.nil (tn (WP.seq (WP.region ?_)))
 refine wq rfl rfl rfl (ov_load_whole (i := 1) isAgg28 sizeOf28 rfl rfl rfl rfl) ?_
 obtain ⟨r6, e7, hm⟩ := bind_some hm
 refine ws rfl (os_con call29 rfl rfl (fun w' s => (program_Inputs_con p_x ao1 cap1 ao2 cap2  w' H s.hold h1 hc1 h2 hc2 hG r6 e7)) (fun rr1 H1 hle1 hR1 => ?_))
 replace h1 := h1.mono hle1
 replace h2 := h2.mono hle1
 replace h3 := h3.mono hle1
 replace h4 := h4.mono hle1
 replace hG := hG.mono hle1
 obtain ⟨ao5, cap5, rfl, h5, hc7⟩ := hR1
 refine wq rfl rfl rfl (ov_move rfl rfl) ?_
 refine wq rfl rfl rfl (ov_extract rfl rfl rfl) ?_
 refine wq rfl rfl rfl (ov_extract rfl rfl rfl) ?_
 refine wq rfl rfl rfl (ov_assign rfl rfl) ?_
 refine wq rfl rfl rfl (ov_assign rfl rfl) ?_
 refine WL.nil (tn (WP.seq (WP.region ?_)))
 refine wq rfl rfl rfl (ov_load_whole (i := 1) isAgg28 sizeOf28 rfl rfl rfl rfl) ?_
 obtain ⟨r7, e8, hm⟩ := bind_some hm
 refine ws rfl (os_con call30 rfl rfl (fun w' s => (ref15_Inputs_con p_x ao1 cap1 ao2 cap2  w' H1 s.hold h1 hc1 h2 hc2 hG r7 e8)) (fun rr2 H2 hle2 hR2 => ?_))
 replace h1 := h1.mono hle2
 replace h2 := h2.mono hle2
 replace h3 := h3.mono hle2
 replace h4 := h4.mono hle2
 replace h5 := h5.mono hle2
 replace hG := hG.mono hle2
 obtain ⟨ao6, cap6, rfl, h6, hc8⟩ := hR2
 refine wq rfl rfl rfl (ov_move rfl rfl) ?_
 refine wq rfl rfl rfl (ov_extract rfl rfl rfl) ?_
 refine wq rfl rfl rfl (ov_extract rfl rfl rfl) ?_
 refine wq rfl rfl rfl (ov_assign rfl rfl) ?_
 refine wq rfl rfl rfl (ov_assign rfl rfl) ?_
 refine WL.nil (tn (WP.seq ?_))
 refine WP.region_draws (by kernel_rfl) (by kernel_rfl) (fun _ s => s.drew) ?_
 obtain ⟨r8, e9, hm⟩ := bind_some hm
 refine QL.quiet (Runs.free rfl) rfl rfl (oq_con (r := (.bool r8)) call11 rfl rfl (fun w' s => ⟨_, (law15_awake_con   w' H2 s.hold hG r8 e9)⟩)) ?_
 refine qf rfl (ov_move rfl rfl) ?_
 obtain ⟨c2, e10, hm⟩ := bind_some hm
 refine QL.part_bool 6 49 (x := c2) ?_ ?_
 ·
  rcases Bool.eq_false_or_eq_true r8 with hc9 | hc9
  ·
   replace hm := ite_t hc9 e10
   refine qy hc9 rfl (ov_load_whole (i := 1) isAgg28 sizeOf28 rfl rfl rfl rfl) ?_
   obtain ⟨r9, e11, hm⟩ := bind_some hm
   refine QL.quiet (Runs.yes rfl rfl rfl hc9) rfl rfl (oq_con (r := (.int .i64 r9)) call31 rfl rfl (fun w' s => ⟨_, (program_Check_con p_x ao1 cap1 ao2 cap2  w' H2 s.hold h1 hc1 h2 hc2 hG r9 e11)⟩)) ?_
   refine qy hc9 rfl (ov_load_whole (i := 1) isAgg28 sizeOf28 rfl rfl rfl rfl) ?_
   obtain ⟨r10, e12, hm⟩ := bind_some hm
   refine QL.quiet (Runs.yes rfl rfl rfl hc9) rfl rfl (oq_con (r := (.int .i64 r10)) call32 rfl rfl (fun w' s => ⟨_, (ref15_Check_con p_x ao1 cap1 ao2 cap2  w' H2 s.hold h1 hc1 h2 hc2 hG r10 e12)⟩)) ?_
   refine qy hc9 rfl (ov_eql rfl rfl rfl) ?_
   refine qf rfl (ov_pick_true rfl (guard_eq rfl hc9) rfl) ?_
   exact QL.nil (Sub.cons' rfl (congrArg Value.bool (Option.some.inj hm)) (Sub.dropn 6 rfl))
  replace hm := ite_f hc9 e10
  refine QL.idle (Idle.no rfl rfl rfl hc9) rfl rfl ?_
  refine QL.idle (Idle.no rfl rfl rfl hc9) rfl rfl ?_
  refine QL.idle (Idle.no rfl rfl rfl hc9) rfl rfl ?_
  refine QL.idle (Idle.no rfl rfl rfl hc9) rfl rfl ?_
  refine QL.idle (Idle.no rfl rfl rfl hc9) rfl rfl ?_
  refine qf rfl (ov_pick_false rfl (guard_eq rfl hc9) rfl) ?_
  exact QL.nil (Sub.cons' rfl (congrArg Value.bool (Option.some.inj hm)) (Sub.dropn 6 rfl))
 refine qf rfl (ov_move rfl rfl) ?_
 refine QL.part_bool 4 54 (x := (c2 && (r4.1 == r5.1))) ?_ ?_
 ·
  rcases Bool.eq_false_or_eq_true c2 with hc10 | hc10
  ·
   refine qy hc10 rfl (ov_move rfl rfl) ?_
   refine qy hc10 rfl (ov_move rfl rfl) ?_
   refine qy hc10 rfl (ov_seql rfl rfl rfl) ?_
   refine qf rfl (ov_pick_true rfl (guard_eq rfl hc10) rfl) ?_
   exact QL.nil (Sub.cons' rfl (congrArg Value.bool (andT hc10)) (Sub.dropn 4 rfl))
  refine QL.idle (Idle.no rfl rfl rfl hc10) rfl rfl ?_
  refine QL.idle (Idle.no rfl rfl rfl hc10) rfl rfl ?_
  refine QL.idle (Idle.no rfl rfl rfl hc10) rfl rfl ?_
  refine qf rfl (ov_pick_false rfl (guard_eq rfl hc10) rfl) ?_
  exact QL.nil (Sub.cons' rfl (congrArg Value.bool (andF hc10)) (Sub.dropn 4 rfl))
 refine qf rfl (ov_move rfl rfl) ?_
 refine QL.part_bool 4 59 (x := ((c2 && (r4.1 == r5.1)) && (r4.2 == r5.2))) ?_ ?_
 ·
  rcases Bool.eq_false_or_eq_true (c2 && (r4.1 == r5.1)) with hc11 | hc11
  ·
   refine qy hc11 rfl (ov_move rfl rfl) ?_
   refine qy hc11 rfl (ov_move rfl rfl) ?_
   refine qy hc11 rfl (ov_eql rfl rfl rfl) ?_
   refine qf rfl (ov_pick_true rfl (guard_eq rfl hc11) rfl) ?_
   exact QL.nil (Sub.cons' rfl (congrArg Value.bool (andT hc11)) (Sub.dropn 4 rfl))
  refine QL.idle (Idle.no rfl rfl rfl hc11) rfl rfl ?_
  refine QL.idle (Idle.no rfl rfl rfl hc11) rfl rfl ?_
  refine QL.idle (Idle.no rfl rfl rfl hc11) rfl rfl ?_
  refine qf rfl (ov_pick_false rfl (guard_eq rfl hc11) rfl) ?_
  exact QL.nil (Sub.cons' rfl (congrArg Value.bool (andF hc11)) (Sub.dropn 4 rfl))
 refine qf rfl (ov_move rfl rfl) ?_
 obtain ⟨c3, e13, hm⟩ := bind_some hm
 refine QL.part_bool 4 64 (x := c3) ?_ ?_
 ·
  rcases Bool.eq_false_or_eq_true ((c2 && (r4.1 == r5.1)) && (r4.2 == r5.2)) with hc12 | hc12
  ·
   replace hm := ite_t hc12 e13
   refine qy hc12 rfl (ov_move rfl rfl) ?_
   refine qy hc12 rfl (ov_move rfl rfl) ?_
   obtain ⟨r11, e14, hm⟩ := bind_some hm
   refine QL.quiet (Runs.yes rfl rfl rfl hc12) rfl rfl (oq_con (r := (.bool r11)) call33 rfl rfl (fun w' s => ⟨_, (slices_Equal_stringstring_con r6.1 r7.1 ao5 cap5 ao6 cap6  w' H2 s.hold h5 hc7 h6 hc8 hG r11 e14)⟩)) ?_
   refine qf rfl (ov_pick_true rfl (guard_eq rfl hc12) rfl) ?_
   exact QL.nil (Sub.cons' rfl (congrArg Value.bool (Option.some.inj hm)) (Sub.dropn 4 rfl))
  replace hm := ite_f hc12 e13
  refine QL.idle (Idle.no rfl rfl rfl hc12) rfl rfl ?_
  refine QL.idle (Idle.no rfl rfl rfl hc12) rfl rfl ?_
  refine QL.idle (Idle.no rfl rfl rfl hc12) rfl rfl ?_
  refine qf rfl (ov_pick_false rfl (guard_eq rfl hc12) rfl) ?_
  exact QL.nil (Sub.cons' rfl (congrArg Value.bool (Option.some.inj hm)) (Sub.dropn 4 rfl))
 refine qf rfl (ov_move rfl rfl) ?_
 refine QL.part_bool 4 69 (x := (c3 && (r6.2 == r7.2))) ?_ ?_
 ·
  rcases Bool.eq_false_or_eq_true c3 with hc13 | hc13
  ·
   refine qy hc13 rfl (ov_move rfl rfl) ?_
   refine qy hc13 rfl (ov_move rfl rfl) ?_
   refine qy hc13 rfl (ov_eql rfl rfl rfl) ?_
   refine qf rfl (ov_pick_true rfl (guard_eq rfl hc13) rfl) ?_
   exact QL.nil (Sub.cons' rfl (congrArg Value.bool (andT hc13)) (Sub.dropn 4 rfl))
  refine QL.idle (Idle.no rfl rfl rfl hc13) rfl rfl ?_
  refine QL.idle (Idle.no rfl rfl rfl hc13) rfl rfl ?_
  refine QL.idle (Idle.no rfl rfl rfl hc13) rfl rfl ?_
  refine qf rfl (ov_pick_false rfl (guard_eq rfl hc13) rfl) ?_
  exact QL.nil (Sub.cons' rfl (congrArg Value.bool (andF hc13)) (Sub.dropn 4 rfl))
 refine qf rfl (ov_move rfl rfl) ?_
 obtain ⟨c4, e15, hm⟩ := bind_some hm
 refine QL.part_bool 8 78 (x := c4) ?_ ?_
 ·
  rcases Bool.eq_false_or_eq_true (c3 && (r6.2 == r7.2)) with hc14 | hc14
  ·
   replace hm := ite_t hc14 e15
   refine qy hc14 rfl (ov_load_whole (i := 1) isAgg28 sizeOf28 rfl rfl rfl rfl) ?_
   refine qy hc14 rfl (ov_load_whole (i := 0) isAgg28 sizeOf28 rfl rfl rfl rfl) ?_
   obtain ⟨r12, e16, hm⟩ := bind_some hm
   refine QL.quiet (Runs.yes rfl rfl rfl hc14) rfl rfl (oq_con (r := (.bool r12)) call34 rfl rfl (fun w' s => ⟨_, (program_Same_con p_x p_y ao1 cap1 ao2 cap2 ao3 cap3 ao4 cap4  w' H2 s.hold h1 hc1 h2 hc2 h3 hc3 h4 hc4 hG r12 e16)⟩)) ?_
   refine qy hc14 rfl (ov_load_whole (i := 1) isAgg28 sizeOf28 rfl rfl rfl rfl) ?_
   refine qy hc14 rfl (ov_load_whole (i := 0) isAgg28 sizeOf28 rfl rfl rfl rfl) ?_
   obtain ⟨r13, e17, hm⟩ := bind_some hm
   refine QL.quiet (Runs.yes rfl rfl rfl hc14) rfl rfl (oq_con (r := (.bool r13)) call14 rfl rfl (fun w' s => ⟨_, (ref15_Same_con p_x p_y ao1 cap1 ao2 cap2 ao3 cap3 ao4 cap4  w' H2 s.hold h1 hc1 h2 hc2 h3 hc3 h4 hc4 hG r13 e17)⟩)) ?_
   refine qy hc14 rfl (ov_beql underlying4 rfl rfl rfl) ?_
   refine qf rfl (ov_pick_true rfl (guard_eq rfl hc14) rfl) ?_
   exact QL.nil (Sub.cons' rfl (congrArg Value.bool (Option.some.inj hm)) (Sub.dropn 8 rfl))
  replace hm := ite_f hc14 e15
  refine QL.idle (Idle.no rfl rfl rfl hc14) rfl rfl ?_
  refine QL.idle (Idle.no rfl rfl rfl hc14) rfl rfl ?_
  refine QL.idle (Idle.no rfl rfl rfl hc14) rfl rfl ?_
  refine QL.idle (Idle.no rfl rfl rfl hc14) rfl rfl ?_
  refine QL.idle (Idle.no rfl rfl rfl hc14) rfl rfl ?_
  refine QL.idle (Idle.no rfl rfl rfl hc14) rfl rfl ?_
  refine QL.idle (Idle.no rfl rfl rfl hc14) rfl rfl ?_
  refine qf rfl (ov_pick_false rfl (guard_eq rfl hc14) rfl) ?_
  exact QL.nil (Sub.cons' rfl (congrArg Value.bool (Option.some.inj hm)) (Sub.dropn 8 rfl))
 refine qf rfl (ov_assign rfl rfl) ?_
 refine QL.nil ?_
 refine tn (WP.ret ?_)
 obtain rfl := Option.some.inj hm
 refine retQ_ret results6 (Res.tmp rfl Res.nil) rfl (fun w' s => ⟨s.below, ?_⟩)
 exact rfl
end Go.Proofs.YtgpfgnpdbmbknaaGreatDoor.W
