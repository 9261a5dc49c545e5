/- The walks. Written by our own program gen.py; Lean checks it. -/
import Derived.Test.YtbiifgojhljkjaaDoorPlain
import Derived.Test.YtbiifgojhljkjaaDoorEqs
import Derived.Test.YtbiifgojhljkjaaDoorProg
import Derived.Test.YtbiifgojhljkjaaDoorExt
import Derived.Test.YtbiifgojhljkjaaDoorClone
import Derived.Test.YtbiifgojhljkjaaDoorWalk2
import Derived.Test.YtbiifgojhljkjaaDoorWalk3
set_option linter.unusedVariables false
set_option maxRecDepth 100000
set_option maxHeartbeats 4000000
namespace Go.Proofs.YtbiifgojhljkjaaDoor.W
open Go Go.RowKit
theorem law13_StrokeChecks_con (p_x : Stroke) (w : World) (H : Heap) (hH : Le H (hp w)) (hG : Glob H) (r : Bool) (hm : law13_StrokeChecks p_x = some r) :
    Con Tryd.prog 6 [(.agg #[(.int .i64 p_x.actuator), (.bool p_x.out)])] w H (fun v _ => v = (.bool r)) := by
  unfold law13_StrokeChecks at hm
  refine con_of hH Tryd.func6 rfl 59 Tryd.ntmps6 rfl ?_
  refine WP.seq (WP.region ?_)
  refine WL.step (Runs.free rfl) rfl rfl (os_box (cs := [(.int .i64 p_x.actuator), (.bool p_x.out)]) rfl rfl rfl (fun b1 => ?_))
  refine wq rfl rfl rfl (ov_assign rfl rfl) ?_
  refine WL.nil (then_normal (WP.seq (WP.region ?_)))
  refine wq rfl rfl rfl (ov_load_whole (i := 0) Tryd.isAgg51 Tryd.sizeOf51 rfl rfl rfl rfl) ?_
  obtain ⟨r1, e1, hm⟩ := bind_some hm
  refine WL.quiet (Runs.free rfl) rfl rfl (oq_con (r := (.tuple #[(.agg #[(.int .i64 r1.1.actuator), (.bool r1.1.out)]), (.int .i64 r1.2)])) Tryd.call23 rfl rfl (fun w' s => ⟨_, (stroke_Opposite_con p_x  w' H s.hold hG r1 e1)⟩)) ?_
  refine wq rfl rfl rfl (ov_move rfl rfl) ?_
  refine wq rfl rfl rfl (ov_extract rfl rfl rfl) ?_
  refine wq rfl rfl rfl (ov_extract rfl rfl rfl) ?_
  refine WL.step (Runs.free rfl) rfl rfl (os_alloc (cs := [(.int .i64 0), (.bool false)]) Tryd.zeroValue51 rfl rfl (fun b2 => ?_))
  refine WL.step0 (Runs.free rfl) rfl (os_store (i := 0) (vs := [(.int .i64 r1.1.actuator), (.bool r1.1.out)]) (cs' := [(.int .i64 r1.1.actuator), (.bool r1.1.out)]) Tryd.sizeOf51 rfl rfl rfl rfl rfl rfl rfl rfl rfl ?_)
  refine wq rfl rfl rfl (ov_assign rfl rfl) ?_
  refine WL.nil (then_normal (WP.seq (WP.region ?_)))
  refine wq rfl rfl rfl (ov_load_whole (i := 1) Tryd.isAgg51 Tryd.sizeOf51 rfl rfl rfl rfl) ?_
  obtain ⟨r2, e2, hm⟩ := bind_some hm
  refine WL.quiet (Runs.free rfl) rfl rfl (oq_con (r := (.tuple #[(.agg #[(.int .i64 r2.1.actuator), (.bool r2.1.out)]), (.int .i64 r2.2)])) Tryd.call24 rfl rfl (fun w' s => ⟨_, (ref13_Opposite_con p_x  w' H s.hold hG r2 e2)⟩)) ?_
  refine wq rfl rfl rfl (ov_move rfl rfl) ?_
  refine wq rfl rfl rfl (ov_extract rfl rfl rfl) ?_
  refine wq rfl rfl rfl (ov_extract rfl rfl rfl) ?_
  refine WL.step (Runs.free rfl) rfl rfl (os_alloc (cs := [(.int .i64 0), (.bool false)]) Tryd.zeroValue51 rfl rfl (fun b3 => ?_))
  refine WL.step0 (Runs.free rfl) rfl (os_store (i := 0) (vs := [(.int .i64 r2.1.actuator), (.bool r2.1.out)]) (cs' := [(.int .i64 r2.1.actuator), (.bool r2.1.out)]) Tryd.sizeOf51 rfl rfl rfl rfl rfl rfl rfl rfl rfl ?_)
  refine wq rfl rfl rfl (ov_assign rfl rfl) ?_
  refine WL.nil (then_normal (WP.seq (WP.region ?_)))
  refine wq rfl rfl rfl (ov_load_whole (i := 2) Tryd.isAgg51 Tryd.sizeOf51 rfl rfl rfl rfl) ?_
  obtain ⟨r3, e3, hm⟩ := bind_some hm
  refine WL.quiet (Runs.free rfl) rfl rfl (oq_con (r := (.tuple #[(mkS r3.1), (.int .i64 r3.2)])) Tryd.call25 rfl rfl (fun w' s => ⟨_, (stroke_Text_con p_x  w' H s.hold hG r3 e3)⟩)) ?_
  refine wq rfl rfl rfl (ov_move rfl rfl) ?_
  refine wq rfl rfl rfl (ov_extract rfl rfl rfl) ?_
  refine wq rfl rfl rfl (ov_extract rfl rfl rfl) ?_
  refine wq rfl rfl rfl (ov_assign rfl rfl) ?_
  refine wq rfl rfl rfl (ov_assign rfl rfl) ?_
  refine WL.nil (then_normal (WP.seq (WP.region ?_)))
  refine wq rfl rfl rfl (ov_load_whole (i := 2) Tryd.isAgg51 Tryd.sizeOf51 rfl rfl rfl rfl) ?_
  obtain ⟨r4, e4, hm⟩ := bind_some hm
  refine WL.quiet (Runs.free rfl) rfl rfl (oq_con (r := (.tuple #[(mkS r4.1), (.int .i64 r4.2)])) Tryd.call26 rfl rfl (fun w' s => ⟨_, (ref13_Text_con p_x  w' H s.hold hG r4 e4)⟩)) ?_
  refine wq rfl rfl rfl (ov_move rfl rfl) ?_
  refine wq rfl rfl rfl (ov_extract rfl rfl rfl) ?_
  refine wq rfl rfl rfl (ov_extract rfl rfl rfl) ?_
  refine wq rfl rfl rfl (ov_assign rfl rfl) ?_
  refine wq rfl rfl rfl (ov_assign rfl rfl) ?_
  refine WL.nil (then_normal (WP.seq ?_))
  refine WP.region_draws (by kernel_rfl) (by kernel_rfl) (fun _ s => s.drew) ?_
  refine QL.quiet (Runs.free rfl) rfl rfl (OV.quiet (ov_load_whole (i := 2) Tryd.isAgg51 Tryd.sizeOf51 rfl rfl rfl rfl)) ?_
  obtain ⟨r5, e5, hm⟩ := bind_some hm
  refine QL.quiet (Runs.free rfl) rfl rfl (oq_con (r := (.int .i64 r5)) Tryd.call27 rfl rfl (fun w' s => ⟨_, (stroke_Check_con p_x  w' H s.hold hG r5 e5)⟩)) ?_
  refine QL.quiet (Runs.free rfl) rfl rfl (OV.quiet (ov_load_whole (i := 2) Tryd.isAgg51 Tryd.sizeOf51 rfl rfl rfl rfl)) ?_
  obtain ⟨r6, e6, hm⟩ := bind_some hm
  refine QL.quiet (Runs.free rfl) rfl rfl (oq_con (r := (.int .i64 r6)) Tryd.call28 rfl rfl (fun w' s => ⟨_, (ref13_Check_con p_x  w' H s.hold hG r6 e6)⟩)) ?_
  refine QL.quiet (Runs.free rfl) rfl rfl (OV.quiet (ov_eql rfl rfl rfl)) ?_
  refine QL.quiet (Runs.free rfl) rfl rfl (OV.quiet (ov_move rfl rfl)) ?_
  refine QL.part_bool 4 40 (x := ((r5 == r6) && (r1.1 == r2.1))) ?_ ?_
  · rcases Bool.eq_false_or_eq_true (r5 == r6) with hc1 | hc1
    · skip
      refine QL.quiet (Runs.yes rfl rfl rfl hc1) rfl rfl (OV.quiet (ov_load_whole (i := 1) Tryd.isAgg51 Tryd.sizeOf51 rfl rfl rfl rfl)) ?_
      refine QL.quiet (Runs.yes rfl rfl rfl hc1) rfl rfl (OV.quiet (ov_load_whole (i := 0) Tryd.isAgg51 Tryd.sizeOf51 rfl rfl rfl rfl)) ?_
      refine QL.quiet (Runs.yes rfl rfl rfl hc1) rfl rfl (OV.quiet (eql_struct51 (a := r1.1) (b := r2.1) rfl rfl rfl)) ?_
      refine QL.quiet (Runs.free rfl) rfl rfl (OV.quiet (ov_pick_true rfl (guard_eq rfl hc1) rfl)) ?_
      exact QL.nil (Sub.cons' rfl (congrArg Value.bool (andT hc1)) (Sub.skip rfl (Sub.skip rfl (Sub.skip rfl (Sub.skip rfl (Sub.refl _))))))
    · skip
      refine QL.idle (Idle.no rfl rfl rfl hc1) rfl rfl ?_
      refine QL.idle (Idle.no rfl rfl rfl hc1) rfl rfl ?_
      refine QL.idle (Idle.no rfl rfl rfl hc1) rfl rfl ?_
      refine QL.quiet (Runs.free rfl) rfl rfl (OV.quiet (ov_pick_false rfl (guard_eq rfl hc1) rfl)) ?_
      exact QL.nil (Sub.cons' rfl (congrArg Value.bool (andF hc1)) (Sub.skip rfl (Sub.skip rfl (Sub.skip rfl (Sub.skip rfl (Sub.refl _))))))
  refine QL.quiet (Runs.free rfl) rfl rfl (OV.quiet (ov_move rfl rfl)) ?_
  refine QL.part_bool 4 45 (x := (((r5 == r6) && (r1.1 == r2.1)) && (r1.2 == r2.2))) ?_ ?_
  · rcases Bool.eq_false_or_eq_true ((r5 == r6) && (r1.1 == r2.1)) with hc2 | hc2
    · skip
      refine QL.quiet (Runs.yes rfl rfl rfl hc2) rfl rfl (OV.quiet (ov_move rfl rfl)) ?_
      refine QL.quiet (Runs.yes rfl rfl rfl hc2) rfl rfl (OV.quiet (ov_move rfl rfl)) ?_
      refine QL.quiet (Runs.yes rfl rfl rfl hc2) rfl rfl (OV.quiet (ov_eql rfl rfl rfl)) ?_
      refine QL.quiet (Runs.free rfl) rfl rfl (OV.quiet (ov_pick_true rfl (guard_eq rfl hc2) rfl)) ?_
      exact QL.nil (Sub.cons' rfl (congrArg Value.bool (andT hc2)) (Sub.skip rfl (Sub.skip rfl (Sub.skip rfl (Sub.skip rfl (Sub.refl _))))))
    · skip
      refine QL.idle (Idle.no rfl rfl rfl hc2) rfl rfl ?_
      refine QL.idle (Idle.no rfl rfl rfl hc2) rfl rfl ?_
      refine QL.idle (Idle.no rfl rfl rfl hc2) rfl rfl ?_
      refine QL.quiet (Runs.free rfl) rfl rfl (OV.quiet (ov_pick_false rfl (guard_eq rfl hc2) rfl)) ?_
      exact QL.nil (Sub.cons' rfl (congrArg Value.bool (andF hc2)) (Sub.skip rfl (Sub.skip rfl (Sub.skip rfl (Sub.skip rfl (Sub.refl _))))))
  refine QL.quiet (Runs.free rfl) rfl rfl (OV.quiet (ov_move rfl rfl)) ?_
  refine QL.part_bool 4 50 (x := ((((r5 == r6) && (r1.1 == r2.1)) && (r1.2 == r2.2)) && (r3.1 == r4.1))) ?_ ?_
  · rcases Bool.eq_false_or_eq_true (((r5 == r6) && (r1.1 == r2.1)) && (r1.2 == r2.2)) with hc3 | hc3
    · skip
      refine QL.quiet (Runs.yes rfl rfl rfl hc3) rfl rfl (OV.quiet (ov_move rfl rfl)) ?_
      refine QL.quiet (Runs.yes rfl rfl rfl hc3) rfl rfl (OV.quiet (ov_move rfl rfl)) ?_
      refine QL.quiet (Runs.yes rfl rfl rfl hc3) rfl rfl (OV.quiet (ov_seql rfl rfl rfl)) ?_
      refine QL.quiet (Runs.free rfl) rfl rfl (OV.quiet (ov_pick_true rfl (guard_eq rfl hc3) rfl)) ?_
      exact QL.nil (Sub.cons' rfl (congrArg Value.bool (andT hc3)) (Sub.skip rfl (Sub.skip rfl (Sub.skip rfl (Sub.skip rfl (Sub.refl _))))))
    · skip
      refine QL.idle (Idle.no rfl rfl rfl hc3) rfl rfl ?_
      refine QL.idle (Idle.no rfl rfl rfl hc3) rfl rfl ?_
      refine QL.idle (Idle.no rfl rfl rfl hc3) rfl rfl ?_
      refine QL.quiet (Runs.free rfl) rfl rfl (OV.quiet (ov_pick_false rfl (guard_eq rfl hc3) rfl)) ?_
      exact QL.nil (Sub.cons' rfl (congrArg Value.bool (andF hc3)) (Sub.skip rfl (Sub.skip rfl (Sub.skip rfl (Sub.skip rfl (Sub.refl _))))))
  refine QL.quiet (Runs.free rfl) rfl rfl (OV.quiet (ov_move rfl rfl)) ?_
  refine QL.part_bool 4 55 (x := (((((r5 == r6) && (r1.1 == r2.1)) && (r1.2 == r2.2)) && (r3.1 == r4.1)) && (r3.2 == r4.2))) ?_ ?_
  · rcases Bool.eq_false_or_eq_true ((((r5 == r6) && (r1.1 == r2.1)) && (r1.2 == r2.2)) && (r3.1 == r4.1)) with hc4 | hc4
    · skip
      refine QL.quiet (Runs.yes rfl rfl rfl hc4) rfl rfl (OV.quiet (ov_move rfl rfl)) ?_
      refine QL.quiet (Runs.yes rfl rfl rfl hc4) rfl rfl (OV.quiet (ov_move rfl rfl)) ?_
      refine QL.quiet (Runs.yes rfl rfl rfl hc4) rfl rfl (OV.quiet (ov_eql rfl rfl rfl)) ?_
      refine QL.quiet (Runs.free rfl) rfl rfl (OV.quiet (ov_pick_true rfl (guard_eq rfl hc4) rfl)) ?_
      exact QL.nil (Sub.cons' rfl (congrArg Value.bool (andT hc4)) (Sub.skip rfl (Sub.skip rfl (Sub.skip rfl (Sub.skip rfl (Sub.refl _))))))
    · skip
      refine QL.idle (Idle.no rfl rfl rfl hc4) rfl rfl ?_
      refine QL.idle (Idle.no rfl rfl rfl hc4) rfl rfl ?_
      refine QL.idle (Idle.no rfl rfl rfl hc4) rfl rfl ?_
      refine QL.quiet (Runs.free rfl) rfl rfl (OV.quiet (ov_pick_false rfl (guard_eq rfl hc4) rfl)) ?_
      exact QL.nil (Sub.cons' rfl (congrArg Value.bool (andF hc4)) (Sub.skip rfl (Sub.skip rfl (Sub.skip rfl (Sub.skip rfl (Sub.refl _))))))
  refine QL.quiet (Runs.free rfl) rfl rfl (OV.quiet (ov_move rfl rfl)) ?_
  obtain ⟨c1, e7, hm⟩ := bind_some hm
  refine QL.part_bool 2 58 (x := c1) ?_ ?_
  · rcases Bool.eq_false_or_eq_true (((((r5 == r6) && (r1.1 == r2.1)) && (r1.2 == r2.2)) && (r3.1 == r4.1)) && (r3.2 == r4.2)) with hc5 | hc5
    · skip
      replace hm := ite_t hc5 e7
      obtain ⟨r7, e8, hm⟩ := bind_some hm
      refine QL.quiet (Runs.yes rfl rfl rfl hc5) rfl rfl (oq_con (r := (.bool r7)) Tryd.call11 rfl rfl (fun w' s => ⟨_, (law13_awake_con   w' H s.hold hG r7 e8)⟩)) ?_
      refine QL.quiet (Runs.free rfl) rfl rfl (OV.quiet (ov_pick_true rfl (guard_eq rfl hc5) rfl)) ?_
      exact QL.nil (Sub.cons' rfl (congrArg Value.bool (Option.some.inj hm)) (Sub.skip rfl (Sub.skip rfl (Sub.refl _))))
    · skip
      replace hm := ite_f hc5 e7
      refine QL.idle (Idle.no rfl rfl rfl hc5) rfl rfl ?_
      refine QL.quiet (Runs.free rfl) rfl rfl (OV.quiet (ov_pick_false rfl (guard_eq rfl hc5) rfl)) ?_
      exact QL.nil (Sub.cons' rfl (congrArg Value.bool (Option.some.inj hm)) (Sub.skip rfl (Sub.skip rfl (Sub.refl _))))
  refine QL.quiet (Runs.free rfl) rfl rfl (OV.quiet (ov_assign rfl rfl)) ?_
  refine QL.nil ?_
  refine then_normal (WP.ret ?_)
  obtain rfl := Option.some.inj hm
  refine retQ_ret Tryd.results6 (Res.tmp rfl Res.nil) rfl (fun w' s => ⟨s.below, ?_⟩)
  exact rfl

end Go.Proofs.YtbiifgojhljkjaaDoor.W
