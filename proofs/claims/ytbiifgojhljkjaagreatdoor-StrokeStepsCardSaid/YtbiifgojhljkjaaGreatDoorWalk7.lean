/- The walks. Written by our own program gen.py; Lean checks it. -/
import Derived.Test.YtbiifgojhljkjaaGreatDoorPlain
import Derived.Test.YtbiifgojhljkjaaGreatDoorEqs
import Derived.Test.YtbiifgojhljkjaaGreatDoorProg
import Derived.Test.YtbiifgojhljkjaaGreatDoorExt
import Derived.Test.YtbiifgojhljkjaaGreatDoorClone
import Derived.Test.YtbiifgojhljkjaaGreatDoorWalk0
import Derived.Test.YtbiifgojhljkjaaGreatDoorWalk2
import Derived.Test.YtbiifgojhljkjaaGreatDoorWalk4
set_option linter.unusedVariables false
set_option maxRecDepth 100000
set_option maxHeartbeats 4000000
namespace Go.Proofs.YtbiifgojhljkjaaGreatDoor.W
open Go Go.RowKit
theorem law13_StrokeSteps_con (p_x : Step) (p_y : Step) (p_actuator : Int) (ao1 : Option Addr) (cap1 : Nat) (ao2 : Option Addr) (cap2 : Nat) (w : World) (H : Heap) (hH : Le H (hp w)) (h1 : SL H encStroke ao1 p_x.strokes) (hc1 : p_x.strokes.length ≤ cap1) (h2 : SL H encStroke ao2 p_y.strokes) (hc2 : p_y.strokes.length ≤ cap2) (hG : Glob H) (r : Bool) (hm : law13_StrokeSteps p_x p_y p_actuator = some r) :
    Con Tryz.prog 5 [(.agg #[(.slice ao1 p_x.strokes.length cap1), (.int .i64 p_x.wait)]), (.agg #[(.slice ao2 p_y.strokes.length cap2), (.int .i64 p_y.wait)]), (.int .i64 p_actuator)] w H (fun v _ => v = (.bool r)) := by
  unfold law13_StrokeSteps at hm
  refine con_of hH Tryz.func5 rfl 64 Tryz.ntmps5 rfl ?_
  refine WP.seq (WP.region ?_)
  refine WL.step (Runs.free rfl) rfl rfl (os_box (cs := [(.slice ao1 p_x.strokes.length cap1), (.int .i64 p_x.wait)]) rfl rfl rfl (fun b1 => ?_))
  refine WL.step (Runs.free rfl) rfl rfl (os_box (cs := [(.slice ao2 p_y.strokes.length cap2), (.int .i64 p_y.wait)]) rfl rfl rfl (fun b2 => ?_))
  refine wq rfl rfl rfl (ov_assign rfl rfl) ?_
  refine WL.nil (then_normal (WP.seq (WP.seq (WP.region ?_))))
  refine wq rfl rfl rfl (ov_load_whole (i := 1) Tryz.isAgg26 Tryz.sizeOf26 rfl rfl rfl rfl) ?_
  obtain ⟨r1, e1, hm⟩ := bind_some hm
  refine WL.quiet (Runs.free rfl) rfl rfl (oq_con (r := (.bool r1)) Tryz.call8 rfl rfl (fun w' s => ⟨_, (ref13_Few_con p_x [] ao1 cap1 none 0  w' H s.hold h1 hc1 (SL.nil _ _ _) (Nat.le_refl _) hG r1 e1)⟩)) ?_
  refine wq rfl rfl rfl (ov_not rfl rfl) ?_
  refine wq rfl rfl rfl (ov_move rfl rfl) ?_
  obtain ⟨c1, e2, hm⟩ := bind_some hm
  refine WL.cut_bool 4 18 (x := c1) ?_ ?_
  · rcases Bool.eq_false_or_eq_true (!r1) with hc3 | hc3
    · skip
      replace hm := ite_t hc3 e2
      refine WL.idle (Idle.no rfl rfl rfl hc3) rfl rfl ?_
      refine WL.idle (Idle.no rfl rfl rfl hc3) rfl rfl ?_
      refine WL.idle (Idle.no rfl rfl rfl hc3) rfl rfl ?_
      refine wq rfl rfl rfl (ov_pick_true rfl (guard_eq rfl hc3) rfl) ?_
      exact WL.nil ⟨Sub.cons' rfl (congrArg Value.bool (Option.some.inj hm)) (Sub.skip rfl (Sub.skip rfl (Sub.skip rfl (Sub.skip rfl (Sub.refl _))))), fun _ s => s⟩
    · skip
      replace hm := ite_f hc3 e2
      refine WL.quiet (Runs.yes rfl rfl rfl hc3) rfl rfl (OV.quiet (ov_load_whole (i := 0) Tryz.isAgg26 Tryz.sizeOf26 rfl rfl rfl rfl)) ?_
      obtain ⟨r2, e3, hm⟩ := bind_some hm
      refine WL.quiet (Runs.yes rfl rfl rfl hc3) rfl rfl (oq_con (r := (.bool r2)) Tryz.call8 rfl rfl (fun w' s => ⟨_, (ref13_Few_con p_y [] ao2 cap2 none 0  w' H s.hold h2 hc2 (SL.nil _ _ _) (Nat.le_refl _) hG r2 e3)⟩)) ?_
      refine WL.quiet (Runs.yes rfl rfl rfl hc3) rfl rfl (OV.quiet (ov_not rfl rfl)) ?_
      refine wq rfl rfl rfl (ov_pick_false rfl (guard_eq rfl hc3) rfl) ?_
      exact WL.nil ⟨Sub.cons' rfl (congrArg Value.bool (Option.some.inj hm)) (Sub.skip rfl (Sub.skip rfl (Sub.skip rfl (Sub.skip rfl (Sub.refl _))))), fun _ s => s⟩
  refine WL.nil (then_normal ?_)
  refine WP.cond rfl (fun hc4 => ?_) (fun hc4 => ?_)
  · replace hm := ite_t hc4 hm
    refine WP.seq (WP.region ?_)
    obtain ⟨r3, e4, hm⟩ := bind_some hm
    refine WL.quiet (Runs.free rfl) rfl rfl (oq_con (r := (.bool r3)) Tryz.call9 rfl rfl (fun w' s => ⟨_, (law13_awake_con   w' H s.hold hG r3 e4)⟩)) ?_
    refine wq rfl rfl rfl (ov_assign rfl rfl) ?_
    refine WL.nil (then_normal (WP.ret (then_ret ?_)))
    obtain rfl := Option.some.inj hm
    refine retQ_ret Tryz.results5 (Res.tmp rfl Res.nil) rfl (fun w' s => ⟨s.below, ?_⟩)
    exact rfl
  · replace hm := ite_f hc4 hm
    refine WP.skip (then_normal (WP.seq (WP.region ?_)))
    refine wq rfl rfl rfl (ov_load_whole (i := 1) Tryz.isAgg26 Tryz.sizeOf26 rfl rfl rfl rfl) ?_
    refine wq rfl rfl rfl (ov_move rfl rfl) ?_
    obtain ⟨r4, e5, hm⟩ := bind_some hm
    refine WL.quiet (Runs.free rfl) rfl rfl (oq_con (r := (.tuple #[(.int .i64 r4.1), (.int .i64 r4.2)])) Tryz.call15 rfl rfl (fun w' s => ⟨_, (stroke_Has_con p_x p_actuator ao1 cap1  w' H s.hold h1 hc1 hG r4 e5)⟩)) ?_
    refine wq rfl rfl rfl (ov_move rfl rfl) ?_
    refine wq rfl rfl rfl (ov_extract rfl rfl rfl) ?_
    refine wq rfl rfl rfl (ov_extract rfl rfl rfl) ?_
    refine wq rfl rfl rfl (ov_assign rfl rfl) ?_
    refine wq rfl rfl rfl (ov_assign rfl rfl) ?_
    refine WL.nil (then_normal (WP.seq (WP.region ?_)))
    refine wq rfl rfl rfl (ov_load_whole (i := 1) Tryz.isAgg26 Tryz.sizeOf26 rfl rfl rfl rfl) ?_
    refine wq rfl rfl rfl (ov_move rfl rfl) ?_
    obtain ⟨r5, e6, hm⟩ := bind_some hm
    refine WL.quiet (Runs.free rfl) rfl rfl (oq_con (r := (.tuple #[(.int .i64 r5.1), (.int .i64 r5.2)])) Tryz.call16 rfl rfl (fun w' s => ⟨_, (ref13_Has_con p_x p_actuator ao1 cap1  w' H s.hold h1 hc1 hG r5 e6)⟩)) ?_
    refine wq rfl rfl rfl (ov_move rfl rfl) ?_
    refine wq rfl rfl rfl (ov_extract rfl rfl rfl) ?_
    refine wq rfl rfl rfl (ov_extract rfl rfl rfl) ?_
    refine wq rfl rfl rfl (ov_assign rfl rfl) ?_
    refine wq rfl rfl rfl (ov_assign rfl rfl) ?_
    refine WL.nil (then_normal (WP.seq ?_))
    refine WP.region_draws (by kernel_rfl) (by kernel_rfl) (fun _ s => s.drew) ?_
    refine QL.quiet (Runs.free rfl) rfl rfl (OV.quiet (ov_load_whole (i := 1) Tryz.isAgg26 Tryz.sizeOf26 rfl rfl rfl rfl)) ?_
    obtain ⟨r6, e7, hm⟩ := bind_some hm
    refine QL.quiet (Runs.free rfl) rfl rfl (oq_con (r := (.int .i64 r6)) Tryz.call17 rfl rfl (fun w' s => ⟨_, (stroke_CheckStep_con p_x ao1 cap1  w' H s.hold h1 hc1 hG r6 e7)⟩)) ?_
    refine QL.quiet (Runs.free rfl) rfl rfl (OV.quiet (ov_load_whole (i := 1) Tryz.isAgg26 Tryz.sizeOf26 rfl rfl rfl rfl)) ?_
    obtain ⟨r7, e8, hm⟩ := bind_some hm
    refine QL.quiet (Runs.free rfl) rfl rfl (oq_con (r := (.int .i64 r7)) Tryz.call18 rfl rfl (fun w' s => ⟨_, (ref13_CheckStep_con p_x ao1 cap1  w' H s.hold h1 hc1 hG r7 e8)⟩)) ?_
    refine QL.quiet (Runs.free rfl) rfl rfl (OV.quiet (ov_eql rfl rfl rfl)) ?_
    refine QL.quiet (Runs.free rfl) rfl rfl (OV.quiet (ov_move rfl rfl)) ?_
    refine QL.part_bool 4 41 (x := ((r6 == r7) && (r4.1 == r5.1))) ?_ ?_
    · rcases Bool.eq_false_or_eq_true (r6 == r7) with hc5 | hc5
      · skip
        refine QL.quiet (Runs.yes rfl rfl rfl hc5) rfl rfl (OV.quiet (ov_move rfl rfl)) ?_
        refine QL.quiet (Runs.yes rfl rfl rfl hc5) rfl rfl (OV.quiet (ov_move rfl rfl)) ?_
        refine QL.quiet (Runs.yes rfl rfl rfl hc5) rfl rfl (OV.quiet (ov_eql rfl rfl rfl)) ?_
        refine QL.quiet (Runs.free rfl) rfl rfl (OV.quiet (ov_pick_true rfl (guard_eq rfl hc5) rfl)) ?_
        exact QL.nil (Sub.cons' rfl (congrArg Value.bool (andT hc5)) (Sub.skip rfl (Sub.skip rfl (Sub.skip rfl (Sub.skip rfl (Sub.refl _))))))
      · skip
        refine QL.idle (Idle.no rfl rfl rfl hc5) rfl rfl ?_
        refine QL.idle (Idle.no rfl rfl rfl hc5) rfl rfl ?_
        refine QL.idle (Idle.no rfl rfl rfl hc5) rfl rfl ?_
        refine QL.quiet (Runs.free rfl) rfl rfl (OV.quiet (ov_pick_false rfl (guard_eq rfl hc5) rfl)) ?_
        exact QL.nil (Sub.cons' rfl (congrArg Value.bool (andF hc5)) (Sub.skip rfl (Sub.skip rfl (Sub.skip rfl (Sub.skip rfl (Sub.refl _))))))
    refine QL.quiet (Runs.free rfl) rfl rfl (OV.quiet (ov_move rfl rfl)) ?_
    refine QL.part_bool 4 46 (x := (((r6 == r7) && (r4.1 == r5.1)) && (r4.2 == r5.2))) ?_ ?_
    · rcases Bool.eq_false_or_eq_true ((r6 == r7) && (r4.1 == r5.1)) with hc6 | hc6
      · skip
        refine QL.quiet (Runs.yes rfl rfl rfl hc6) rfl rfl (OV.quiet (ov_move rfl rfl)) ?_
        refine QL.quiet (Runs.yes rfl rfl rfl hc6) rfl rfl (OV.quiet (ov_move rfl rfl)) ?_
        refine QL.quiet (Runs.yes rfl rfl rfl hc6) rfl rfl (OV.quiet (ov_eql rfl rfl rfl)) ?_
        refine QL.quiet (Runs.free rfl) rfl rfl (OV.quiet (ov_pick_true rfl (guard_eq rfl hc6) rfl)) ?_
        exact QL.nil (Sub.cons' rfl (congrArg Value.bool (andT hc6)) (Sub.skip rfl (Sub.skip rfl (Sub.skip rfl (Sub.skip rfl (Sub.refl _))))))
      · skip
        refine QL.idle (Idle.no rfl rfl rfl hc6) rfl rfl ?_
        refine QL.idle (Idle.no rfl rfl rfl hc6) rfl rfl ?_
        refine QL.idle (Idle.no rfl rfl rfl hc6) rfl rfl ?_
        refine QL.quiet (Runs.free rfl) rfl rfl (OV.quiet (ov_pick_false rfl (guard_eq rfl hc6) rfl)) ?_
        exact QL.nil (Sub.cons' rfl (congrArg Value.bool (andF hc6)) (Sub.skip rfl (Sub.skip rfl (Sub.skip rfl (Sub.skip rfl (Sub.refl _))))))
    refine QL.quiet (Runs.free rfl) rfl rfl (OV.quiet (ov_move rfl rfl)) ?_
    obtain ⟨c2, e9, hm⟩ := bind_some hm
    refine QL.part_bool 8 55 (x := c2) ?_ ?_
    · rcases Bool.eq_false_or_eq_true (((r6 == r7) && (r4.1 == r5.1)) && (r4.2 == r5.2)) with hc7 | hc7
      · skip
        replace hm := ite_t hc7 e9
        refine QL.quiet (Runs.yes rfl rfl rfl hc7) rfl rfl (OV.quiet (ov_load_whole (i := 1) Tryz.isAgg26 Tryz.sizeOf26 rfl rfl rfl rfl)) ?_
        refine QL.quiet (Runs.yes rfl rfl rfl hc7) rfl rfl (OV.quiet (ov_load_whole (i := 0) Tryz.isAgg26 Tryz.sizeOf26 rfl rfl rfl rfl)) ?_
        obtain ⟨r8, e10, hm⟩ := bind_some hm
        refine QL.quiet (Runs.yes rfl rfl rfl hc7) rfl rfl (oq_con (r := (.bool r8)) Tryz.call19 rfl rfl (fun w' s => ⟨_, (stroke_Same_con p_x p_y ao1 cap1 ao2 cap2  w' H s.hold h1 hc1 h2 hc2 hG r8 e10)⟩)) ?_
        refine QL.quiet (Runs.yes rfl rfl rfl hc7) rfl rfl (OV.quiet (ov_load_whole (i := 1) Tryz.isAgg26 Tryz.sizeOf26 rfl rfl rfl rfl)) ?_
        refine QL.quiet (Runs.yes rfl rfl rfl hc7) rfl rfl (OV.quiet (ov_load_whole (i := 0) Tryz.isAgg26 Tryz.sizeOf26 rfl rfl rfl rfl)) ?_
        obtain ⟨r9, e11, hm⟩ := bind_some hm
        refine QL.quiet (Runs.yes rfl rfl rfl hc7) rfl rfl (oq_con (r := (.bool r9)) Tryz.call20 rfl rfl (fun w' s => ⟨_, (ref13_Same_con p_x p_y ao1 cap1 ao2 cap2  w' H s.hold h1 hc1 h2 hc2 hG r9 e11)⟩)) ?_
        refine QL.quiet (Runs.yes rfl rfl rfl hc7) rfl rfl (OV.quiet (ov_beql Tryz.underlying4 rfl rfl rfl)) ?_
        refine QL.quiet (Runs.free rfl) rfl rfl (OV.quiet (ov_pick_true rfl (guard_eq rfl hc7) rfl)) ?_
        exact QL.nil (Sub.cons' rfl (congrArg Value.bool (Option.some.inj hm)) (Sub.skip rfl (Sub.skip rfl (Sub.skip rfl (Sub.skip rfl (Sub.skip rfl (Sub.skip rfl (Sub.skip rfl (Sub.skip rfl (Sub.refl _))))))))))
      · skip
        replace hm := ite_f hc7 e9
        refine QL.idle (Idle.no rfl rfl rfl hc7) rfl rfl ?_
        refine QL.idle (Idle.no rfl rfl rfl hc7) rfl rfl ?_
        refine QL.idle (Idle.no rfl rfl rfl hc7) rfl rfl ?_
        refine QL.idle (Idle.no rfl rfl rfl hc7) rfl rfl ?_
        refine QL.idle (Idle.no rfl rfl rfl hc7) rfl rfl ?_
        refine QL.idle (Idle.no rfl rfl rfl hc7) rfl rfl ?_
        refine QL.idle (Idle.no rfl rfl rfl hc7) rfl rfl ?_
        refine QL.quiet (Runs.free rfl) rfl rfl (OV.quiet (ov_pick_false rfl (guard_eq rfl hc7) rfl)) ?_
        exact QL.nil (Sub.cons' rfl (congrArg Value.bool (Option.some.inj hm)) (Sub.skip rfl (Sub.skip rfl (Sub.skip rfl (Sub.skip rfl (Sub.skip rfl (Sub.skip rfl (Sub.skip rfl (Sub.skip rfl (Sub.refl _))))))))))
    refine QL.quiet (Runs.free rfl) rfl rfl (OV.quiet (ov_move rfl rfl)) ?_
    obtain ⟨c3, e12, hm⟩ := bind_some hm
    refine QL.part_bool 4 60 (x := c3) ?_ ?_
    · rcases Bool.eq_false_or_eq_true c2 with hc8 | hc8
      · skip
        replace hm := ite_t hc8 e12
        refine QL.quiet (Runs.yes rfl rfl rfl hc8) rfl rfl (OV.quiet (ov_load_whole (i := 1) Tryz.isAgg26 Tryz.sizeOf26 rfl rfl rfl rfl)) ?_
        refine QL.quiet (Runs.yes rfl rfl rfl hc8) rfl rfl (OV.quiet (ov_load_whole (i := 1) Tryz.isAgg26 Tryz.sizeOf26 rfl rfl rfl rfl)) ?_
        obtain ⟨r10, e13, hm⟩ := bind_some hm
        refine QL.quiet (Runs.yes rfl rfl rfl hc8) rfl rfl (oq_con (r := (.bool r10)) Tryz.call19 rfl rfl (fun w' s => ⟨_, (stroke_Same_con p_x p_x ao1 cap1 ao1 cap1  w' H s.hold h1 hc1 h1 hc1 hG r10 e13)⟩)) ?_
        refine QL.quiet (Runs.free rfl) rfl rfl (OV.quiet (ov_pick_true rfl (guard_eq rfl hc8) rfl)) ?_
        exact QL.nil (Sub.cons' rfl (congrArg Value.bool (Option.some.inj hm)) (Sub.skip rfl (Sub.skip rfl (Sub.skip rfl (Sub.skip rfl (Sub.refl _))))))
      · skip
        replace hm := ite_f hc8 e12
        refine QL.idle (Idle.no rfl rfl rfl hc8) rfl rfl ?_
        refine QL.idle (Idle.no rfl rfl rfl hc8) rfl rfl ?_
        refine QL.idle (Idle.no rfl rfl rfl hc8) rfl rfl ?_
        refine QL.quiet (Runs.free rfl) rfl rfl (OV.quiet (ov_pick_false rfl (guard_eq rfl hc8) rfl)) ?_
        exact QL.nil (Sub.cons' rfl (congrArg Value.bool (Option.some.inj hm)) (Sub.skip rfl (Sub.skip rfl (Sub.skip rfl (Sub.skip rfl (Sub.refl _))))))
    refine QL.quiet (Runs.free rfl) rfl rfl (OV.quiet (ov_move rfl rfl)) ?_
    obtain ⟨c4, e14, hm⟩ := bind_some hm
    refine QL.part_bool 2 63 (x := c4) ?_ ?_
    · rcases Bool.eq_false_or_eq_true c3 with hc9 | hc9
      · skip
        replace hm := ite_t hc9 e14
        obtain ⟨r11, e15, hm⟩ := bind_some hm
        refine QL.quiet (Runs.yes rfl rfl rfl hc9) rfl rfl (oq_con (r := (.bool r11)) Tryz.call9 rfl rfl (fun w' s => ⟨_, (law13_awake_con   w' H s.hold hG r11 e15)⟩)) ?_
        refine QL.quiet (Runs.free rfl) rfl rfl (OV.quiet (ov_pick_true rfl (guard_eq rfl hc9) rfl)) ?_
        exact QL.nil (Sub.cons' rfl (congrArg Value.bool (Option.some.inj hm)) (Sub.skip rfl (Sub.skip rfl (Sub.refl _))))
      · skip
        replace hm := ite_f hc9 e14
        refine QL.idle (Idle.no rfl rfl rfl hc9) rfl rfl ?_
        refine QL.quiet (Runs.free rfl) rfl rfl (OV.quiet (ov_pick_false rfl (guard_eq rfl hc9) rfl)) ?_
        exact QL.nil (Sub.cons' rfl (congrArg Value.bool (Option.some.inj hm)) (Sub.skip rfl (Sub.skip rfl (Sub.refl _))))
    refine QL.quiet (Runs.free rfl) rfl rfl (OV.quiet (ov_assign rfl rfl)) ?_
    refine QL.nil ?_
    refine then_normal (WP.ret ?_)
    obtain rfl := Option.some.inj hm
    refine retQ_ret Tryz.results5 (Res.tmp rfl Res.nil) rfl (fun w' s => ⟨s.below, ?_⟩)
    exact rfl

end Go.Proofs.YtbiifgojhljkjaaGreatDoor.W
