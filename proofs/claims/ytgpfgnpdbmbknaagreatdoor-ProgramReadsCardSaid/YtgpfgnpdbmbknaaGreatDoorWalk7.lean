import Derived.Test.YtgpfgnpdbmbknaaGreatDoorPlain
import Derived.Test.YtgpfgnpdbmbknaaGreatDoorEqs
import Derived.Test.YtgpfgnpdbmbknaaGreatDoorProg
import Derived.Test.YtgpfgnpdbmbknaaGreatDoorExt
import Derived.Test.YtgpfgnpdbmbknaaGreatDoorClone
import Derived.Test.YtgpfgnpdbmbknaaGreatDoorSort
import Derived.Test.YtgpfgnpdbmbknaaGreatDoorWalk3
import Derived.Test.YtgpfgnpdbmbknaaGreatDoorWalk5
import Derived.Test.YtgpfgnpdbmbknaaGreatDoorWalk6
set_option linter.unusedVariables false
set_option maxRecDepth 100000
set_option maxHeartbeats 4000000
namespace Go.Proofs.YtgpfgnpdbmbknaaGreatDoor.W
open Go Go.RowKit Go.Proofs.Tryz
theorem law15_ProgramReads_con (p_x : Node) (ao1 : Option Addr) (cap1 : Nat) (ao2 : Option Addr) (cap2 : Nat) (w : World) (H : Heap) (hH : Le H (hp w)) (h1 : SL H encStroke ao1 p_x.step.strokes) (hc1 : p_x.step.strokes.length ≤ cap1) (h2 : SL H encNode ao2 p_x.nodes) (hc2 : p_x.nodes.length ≤ cap2) (hG : Glob H) (r : Bool) (hm : law15_ProgramReads p_x = some r) :
  Con prog 7 [(.agg #[(.int .i64 p_x.kind), (.slice ao1 p_x.step.strokes.length cap1), (.int .i64 p_x.step.wait), (.int .i64 p_x.count), (mkS p_x.name), (.slice ao2 p_x.nodes.length cap2)])] w H (fun v _ => v = (.bool r)) := by
 unfold law15_ProgramReads at hm
 refine con_of hH func7 rfl 48 ntmps7 rfl ?_
 refine WP.seq (WP.region ?_)
 refine ws rfl (os_box (cs := [(.int .i64 p_x.kind), (.slice ao1 p_x.step.strokes.length cap1), (.int .i64 p_x.step.wait), (.int .i64 p_x.count), (mkS p_x.name), (.slice ao2 p_x.nodes.length cap2)]) rfl rfl rfl (fun b1 => ?_))
 refine Va rfl (WL.nil (tn (WP.seq (WP.seq (WP.region (V rfl (ov_load_whole (i := 0) isAgg28 sizeOf28 rfl rfl rfl rfl) ?_))))))
 obtain ⟨r1, e1, hm⟩ := bind_some hm
 refine wo rfl (oq_con (r := (.bool r1)) call24 rfl rfl (fun w' s => ⟨_, (law15_right_con p_x [] ao1 cap1 ao2 cap2 none 0  w' H s.hold h1 hc1 h2 hc2 (SL.nil _ _ _) (Nat.le_refl _) hG r1 e1)⟩)) ?_
 refine V rfl (ov_not rfl rfl) (WL.nil (tn ?_))
 refine WP.cond rfl (fun hc3 => ?_) (fun hc3 => ?_)
 ·
  replace hm := ite_t hc3 hm
  refine WP.seq (WP.region ?_)
  obtain ⟨r2, e2, hm⟩ := bind_some hm
  refine wo rfl (oq_con (r := (.bool r2)) call11 rfl rfl (fun w' s => ⟨_, (law15_awake_con   w' H s.hold hG r2 e2)⟩)) ?_
  refine Va rfl (WL.nil (tn (WP.ret (then_ret ?_))))
  obtain rfl := Option.some.inj hm
  refine retQ_ret results7 (Res.tmp rfl Res.nil) rfl (fun w' s => ⟨s.below, ?_⟩)
  exact rfl
 replace hm := ite_f hc3 hm
 refine WP.skip (tn (WP.seq (WP.region (V rfl (ov_load_whole (i := 0) isAgg28 sizeOf28 rfl rfl rfl rfl) ?_))))
 obtain ⟨r3, e3, hm⟩ := bind_some hm
 refine wo rfl (oq_con (r := (.tuple #[(mkS r3.1), (.int .i64 r3.2)])) call27 rfl rfl (fun w' s => ⟨_, (program_Format_con p_x ao1 cap1 ao2 cap2  w' H s.hold h1 hc1 h2 hc2 hG r3 e3)⟩)) ?_
 refine Vm rfl (Ve rfl (Ve rfl (Va rfl (Va rfl (WL.nil (tn (WP.seq (WP.seq (WP.region (Vm rfl (V rfl (ov_neq rfl rfl rfl) (WL.nil (tn ?_)))))))))))))
 refine WP.cond rfl (fun hc4 => ?_) (fun hc4 => ?_)
 ·
  replace hm := ite_t hc4 hm
  refine WP.seq (WP.region (Vm rfl (V rfl (ov_eql rfl rfl rfl) (Vm rfl ?_))))
  obtain ⟨c1, e4, hm⟩ := bind_some hm
  refine WL.cut_bool 2 22 (x := c1) ?_ ?_
  ·
   rcases Bool.eq_false_or_eq_true (r3.2 == 17) with hc5 | hc5
   ·
    replace hm := ite_t hc5 e4
    obtain ⟨r4, e5, hm⟩ := bind_some hm
    refine WL.quiet (Runs.yes rfl rfl rfl hc5) rfl rfl (oq_con (r := (.bool r4)) call11 rfl rfl (fun w' s => ⟨_, (law15_awake_con   w' H s.hold hG r4 e5)⟩)) ?_
    refine V rfl (ov_pick_true rfl (guard_eq rfl hc5) rfl) ?_
    exact WL.nil ⟨Sub.cons' rfl (congrArg Value.bool (Option.some.inj hm)) (Sub.dropn 2 rfl), fun _ s => s⟩
   replace hm := ite_f hc5 e4
   refine Vi rfl (Idle.no rfl rfl rfl hc5) (V rfl (ov_pick_false rfl (guard_eq rfl hc5) rfl) ?_)
   exact WL.nil ⟨Sub.cons' rfl (congrArg Value.bool (Option.some.inj hm)) (Sub.dropn 2 rfl), fun _ s => s⟩
  refine Va rfl (WL.nil (tn (WP.ret (then_ret ?_))))
  obtain rfl := Option.some.inj hm
  refine retQ_ret results7 (Res.tmp rfl Res.nil) rfl (fun w' s => ⟨s.below, ?_⟩)
  exact rfl
 replace hm := ite_f hc4 hm
 refine WP.skip (tn (WP.seq (WP.region (Vm rfl ?_))))
 obtain ⟨r5, e6, hm⟩ := bind_some hm
 refine ws rfl (os_con call12 rfl rfl (fun w' s => (program_Parse_con r3.1  w' H s.hold hG r5 e6)) (fun rr1 H1 hle1 hR1 => ?_))
 replace h1 := h1.mono hle1
 replace h2 := h2.mono hle1
 replace hG := hG.mono hle1
 obtain ⟨ao3, cap3, ao4, cap4, rfl, h3, hc6, h4, hc7⟩ := hR1
 refine Vm rfl (Ve rfl (Ve rfl (Ve rfl ?_)))
 refine ws rfl (os_alloc (cs := [(.int .i64 0), (.slice none 0 0), (.int .i64 0), (.int .i64 0), (mkS []), (.slice none 0 0)]) zeroValue28 rfl rfl (fun b2 => ?_))
 refine ws0 rfl (os_store (i := 0) (vs := [(.int .i64 r5.1.kind), (.slice ao3 r5.1.step.strokes.length cap3), (.int .i64 r5.1.step.wait), (.int .i64 r5.1.count), (mkS r5.1.name), (.slice ao4 r5.1.nodes.length cap4)]) (cs' := [(.int .i64 r5.1.kind), (.slice ao3 r5.1.step.strokes.length cap3), (.int .i64 r5.1.step.wait), (.int .i64 r5.1.count), (mkS r5.1.name), (.slice ao4 r5.1.nodes.length cap4)]) sizeOf28 rfl rfl rfl rfl rfl rfl rfl rfl rfl ?_)
 refine Va rfl (Va rfl (WL.nil (tn (WP.seq (WP.region (Vm rfl (V rfl (ov_eql rfl rfl rfl) (Vm rfl ?_))))))))
 refine WL.cut_bool 3 34 (x := ((r5.2.2 == 0) && (r5.2.1 == 0))) ?_ ?_
 ·
  rcases Bool.eq_false_or_eq_true (r5.2.2 == 0) with hc8 | hc8
  ·
   refine wy hc8 rfl (ov_move rfl rfl) ?_
   refine wy hc8 rfl (ov_eql rfl rfl rfl) ?_
   refine V rfl (ov_pick_true rfl (guard_eq rfl hc8) rfl) ?_
   exact WL.nil ⟨Sub.cons' rfl (congrArg Value.bool (andT hc8)) (Sub.dropn 3 rfl), fun _ s => s⟩
  refine Vi rfl (Idle.no rfl rfl rfl hc8) (Vi rfl (Idle.no rfl rfl rfl hc8) (V rfl (ov_pick_false rfl (guard_eq rfl hc8) rfl) ?_))
  exact WL.nil ⟨Sub.cons' rfl (congrArg Value.bool (andF hc8)) (Sub.dropn 3 rfl), fun _ s => s⟩
 refine Vm rfl ?_
 obtain ⟨c2, e7, hm⟩ := bind_some hm
 refine WL.cut_bool 4 39 (x := c2) ?_ ?_
 ·
  rcases Bool.eq_false_or_eq_true ((r5.2.2 == 0) && (r5.2.1 == 0)) with hc9 | hc9
  ·
   replace hm := ite_t hc9 e7
   refine wy hc9 rfl (ov_load_whole (i := 1) isAgg28 sizeOf28 rfl rfl rfl rfl) ?_
   refine wy hc9 rfl (ov_load_whole (i := 0) isAgg28 sizeOf28 rfl rfl rfl rfl) ?_
   obtain ⟨r6, e8, hm⟩ := bind_some hm
   refine WL.quiet (Runs.yes rfl rfl rfl hc9) rfl rfl (oq_con (r := (.bool r6)) call14 rfl rfl (fun w' s => ⟨_, (ref15_Same_con p_x r5.1 ao1 cap1 ao2 cap2 ao3 cap3 ao4 cap4  w' H1 s.hold h1 hc1 h2 hc2 h3 hc6 h4 hc7 hG r6 e8)⟩)) ?_
   refine V rfl (ov_pick_true rfl (guard_eq rfl hc9) rfl) ?_
   exact WL.nil ⟨Sub.cons' rfl (congrArg Value.bool (Option.some.inj hm)) (Sub.dropn 4 rfl), fun _ s => s⟩
  replace hm := ite_f hc9 e7
  refine Vi rfl (Idle.no rfl rfl rfl hc9) (Vi rfl (Idle.no rfl rfl rfl hc9) (Vi rfl (Idle.no rfl rfl rfl hc9) (V rfl (ov_pick_false rfl (guard_eq rfl hc9) rfl) ?_)))
  exact WL.nil ⟨Sub.cons' rfl (congrArg Value.bool (Option.some.inj hm)) (Sub.dropn 4 rfl), fun _ s => s⟩
 refine Vm rfl ?_
 obtain ⟨c3, e9, hm⟩ := bind_some hm
 refine WL.cut_bool 4 44 (x := c3) ?_ ?_
 ·
  rcases Bool.eq_false_or_eq_true c2 with hc10 | hc10
  ·
   replace hm := ite_t hc10 e9
   refine wy hc10 rfl (ov_load_whole (i := 1) isAgg28 sizeOf28 rfl rfl rfl rfl) ?_
   refine wy hc10 rfl (ov_load_whole (i := 0) isAgg28 sizeOf28 rfl rfl rfl rfl) ?_
   obtain ⟨r7, e10, hm⟩ := bind_some hm
   refine WL.quiet (Runs.yes rfl rfl rfl hc10) rfl rfl (oq_con (r := (.bool r7)) call34 rfl rfl (fun w' s => ⟨_, (program_Same_con p_x r5.1 ao1 cap1 ao2 cap2 ao3 cap3 ao4 cap4  w' H1 s.hold h1 hc1 h2 hc2 h3 hc6 h4 hc7 hG r7 e10)⟩)) ?_
   refine V rfl (ov_pick_true rfl (guard_eq rfl hc10) rfl) ?_
   exact WL.nil ⟨Sub.cons' rfl (congrArg Value.bool (Option.some.inj hm)) (Sub.dropn 4 rfl), fun _ s => s⟩
  replace hm := ite_f hc10 e9
  refine Vi rfl (Idle.no rfl rfl rfl hc10) (Vi rfl (Idle.no rfl rfl rfl hc10) (Vi rfl (Idle.no rfl rfl rfl hc10) (V rfl (ov_pick_false rfl (guard_eq rfl hc10) rfl) ?_)))
  exact WL.nil ⟨Sub.cons' rfl (congrArg Value.bool (Option.some.inj hm)) (Sub.dropn 4 rfl), fun _ s => s⟩
 refine Vm rfl ?_
 obtain ⟨c4, e11, hm⟩ := bind_some hm
 refine WL.cut_bool 2 47 (x := c4) ?_ ?_
 ·
  rcases Bool.eq_false_or_eq_true c3 with hc11 | hc11
  ·
   replace hm := ite_t hc11 e11
   obtain ⟨r8, e12, hm⟩ := bind_some hm
   refine WL.quiet (Runs.yes rfl rfl rfl hc11) rfl rfl (oq_con (r := (.bool r8)) call11 rfl rfl (fun w' s => ⟨_, (law15_awake_con   w' H1 s.hold hG r8 e12)⟩)) ?_
   refine V rfl (ov_pick_true rfl (guard_eq rfl hc11) rfl) ?_
   exact WL.nil ⟨Sub.cons' rfl (congrArg Value.bool (Option.some.inj hm)) (Sub.dropn 2 rfl), fun _ s => s⟩
  replace hm := ite_f hc11 e11
  refine Vi rfl (Idle.no rfl rfl rfl hc11) (V rfl (ov_pick_false rfl (guard_eq rfl hc11) rfl) ?_)
  exact WL.nil ⟨Sub.cons' rfl (congrArg Value.bool (Option.some.inj hm)) (Sub.dropn 2 rfl), fun _ s => s⟩
 refine Va rfl (WL.nil (tn (WP.ret ?_)))
 obtain rfl := Option.some.inj hm
 refine retQ_ret results7 (Res.tmp rfl Res.nil) rfl (fun w' s => ⟨s.below, ?_⟩)
 exact rfl
end Go.Proofs.YtgpfgnpdbmbknaaGreatDoor.W
