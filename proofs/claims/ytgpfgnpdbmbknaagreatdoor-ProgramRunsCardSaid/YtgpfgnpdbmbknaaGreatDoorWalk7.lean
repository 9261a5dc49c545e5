/- The walks. Written by our own program gen.py; Lean checks it. -/
import Derived.Test.YtgpfgnpdbmbknaaGreatDoorPlain
import Derived.Test.YtgpfgnpdbmbknaaGreatDoorEqs
import Derived.Test.YtgpfgnpdbmbknaaGreatDoorProg
import Derived.Test.YtgpfgnpdbmbknaaGreatDoorExt
import Derived.Test.YtgpfgnpdbmbknaaGreatDoorClone
import Derived.Test.YtgpfgnpdbmbknaaGreatDoorSort
import Derived.Test.YtgpfgnpdbmbknaaGreatDoorWalk4
import Derived.Test.YtgpfgnpdbmbknaaGreatDoorWalk5
import Derived.Test.YtgpfgnpdbmbknaaGreatDoorWalk6
set_option linter.unusedVariables false
set_option maxRecDepth 100000
set_option maxHeartbeats 4000000
namespace Go.Proofs.YtgpfgnpdbmbknaaGreatDoor.W
open Go Go.RowKit Go.Proofs.Tryz
theorem law15_ProgramRuns_con (p_x : Node) (p_on : (List (List UInt8))) (ao1 : Option Addr) (cap1 : Nat) (ao2 : Option Addr) (cap2 : Nat) (ao3 : Option Addr) (cap3 : Nat) (w : World) (H : Heap) (hH : Le H (hp w)) (h1 : SL H encStroke ao1 p_x.step.strokes) (hc1 : p_x.step.strokes.length ≤ cap1) (h2 : SL H encNode ao2 p_x.nodes) (hc2 : p_x.nodes.length ≤ cap2) (h3 : SL H encStr ao3 p_on) (hc3 : p_on.length ≤ cap3) (hG : Glob H) (r : Bool) (hm : law15_ProgramRuns p_x p_on = some r) :
  Con prog 5 [(.agg #[(.int .i64 p_x.kind), (.slice ao1 p_x.step.strokes.length cap1), (.int .i64 p_x.step.wait), (.int .i64 p_x.count), (mkS p_x.name), (.slice ao2 p_x.nodes.length cap2)]), (.slice ao3 p_on.length cap3)] w H (fun v _ => v = (.bool r)) := by
 unfold law15_ProgramRuns at hm
 refine con_of hH func5 rfl 83 ntmps5 rfl ?_
 refine WP.seq (WP.region ?_)
 refine ws rfl (os_box (cs := [(.int .i64 p_x.kind), (.slice ao1 p_x.step.strokes.length cap1), (.int .i64 p_x.step.wait), (.int .i64 p_x.count), (mkS p_x.name), (.slice ao2 p_x.nodes.length cap2)]) rfl rfl rfl (fun b1 => ?_))
 refine wq rfl rfl rfl (ov_assign rfl rfl) ?_
 refine WL.nil (tn (WP.seq (WP.seq (WP.region ?_))))
 refine wq rfl rfl rfl (ov_load_whole (i := 0) isAgg28 sizeOf28 rfl rfl rfl rfl) ?_
 refine wq rfl rfl rfl (ov_move rfl rfl) ?_
 obtain ⟨r1, e1, hm⟩ := bind_some hm
 refine wo rfl (oq_con (r := (.bool r1)) call24 rfl rfl (fun w' s => ⟨_, (law15_right_con p_x p_on ao1 cap1 ao2 cap2 ao3 cap3  w' H s.hold h1 hc1 h2 hc2 h3 hc3 hG r1 e1)⟩)) ?_
 refine wq rfl rfl rfl (ov_not rfl rfl) ?_
 refine WL.nil (tn ?_)
 refine WP.cond rfl (fun hc4 => ?_) (fun hc4 => ?_)
 ·
  replace hm := ite_t hc4 hm
  refine WP.seq (WP.region ?_)
  obtain ⟨r2, e2, hm⟩ := bind_some hm
  refine wo rfl (oq_con (r := (.bool r2)) call11 rfl rfl (fun w' s => ⟨_, (law15_awake_con   w' H s.hold hG r2 e2)⟩)) ?_
  refine wq rfl rfl rfl (ov_assign rfl rfl) ?_
  refine WL.nil (tn (WP.ret (then_ret ?_)))
  obtain rfl := Option.some.inj hm
  refine retQ_ret results5 (Res.tmp rfl Res.nil) rfl (fun w' s => ⟨s.below, ?_⟩)
  exact rfl
 replace hm := ite_f hc4 hm
 refine WP.skip (tn (WP.seq (WP.region ?_)))
 refine wq rfl rfl rfl (ov_load_whole (i := 0) isAgg28 sizeOf28 rfl rfl rfl rfl) ?_
 obtain ⟨r3, e3, hm⟩ := bind_some hm
 refine ws rfl (os_con call25 rfl rfl (fun w' s => (program_Faulty_con p_x ao1 cap1 ao2 cap2  w' H s.hold h1 hc1 h2 hc2 hG r3 e3)) (fun rr1 H1 hle1 hR1 => ?_))
 replace h1 := h1.mono hle1
 replace h2 := h2.mono hle1
 replace h3 := h3.mono hle1
 replace hG := hG.mono hle1
 obtain ⟨ao4, cap4, rfl, h4, hc5⟩ := hR1
 refine wq rfl rfl rfl (ov_move rfl rfl) ?_
 refine wq rfl rfl rfl (ov_extract rfl rfl rfl) ?_
 refine wq rfl rfl rfl (ov_extract rfl rfl rfl) ?_
 refine wq rfl rfl rfl (ov_extract rfl rfl rfl) ?_
 refine wq rfl rfl rfl (ov_assign rfl rfl) ?_
 refine wq rfl rfl rfl (ov_assign rfl rfl) ?_
 refine wq rfl rfl rfl (ov_assign rfl rfl) ?_
 refine WL.nil (tn (WP.seq (WP.seq (WP.region ?_))))
 refine wq rfl rfl rfl (ov_move rfl rfl) ?_
 refine wq rfl rfl rfl (ov_neq rfl rfl rfl) ?_
 refine WL.nil (tn ?_)
 refine WP.cond rfl (fun hc6 => ?_) (fun hc6 => ?_)
 ·
  replace hm := ite_t hc6 hm
  refine WP.seq (WP.region ?_)
  refine wq rfl rfl rfl (ov_move rfl rfl) ?_
  refine wq rfl rfl rfl (ov_eql rfl rfl rfl) ?_
  refine wq rfl rfl rfl (ov_move rfl rfl) ?_
  obtain ⟨c1, e4, hm⟩ := bind_some hm
  refine WL.cut_bool 2 31 (x := c1) ?_ ?_
  ·
   rcases Bool.eq_false_or_eq_true (r3.2.2 == 12) with hc7 | hc7
   ·
    replace hm := ite_t hc7 e4
    obtain ⟨r4, e5, hm⟩ := bind_some hm
    refine WL.quiet (Runs.yes rfl rfl rfl hc7) rfl rfl (oq_con (r := (.bool r4)) call11 rfl rfl (fun w' s => ⟨_, (law15_awake_con   w' H1 s.hold hG r4 e5)⟩)) ?_
    refine wq rfl rfl rfl (ov_pick_true rfl (guard_eq rfl hc7) rfl) ?_
    exact WL.nil ⟨Sub.cons' rfl (congrArg Value.bool (Option.some.inj hm)) (Sub.dropn 2 rfl), fun _ s => s⟩
   replace hm := ite_f hc7 e4
   refine WL.idle (Idle.no rfl rfl rfl hc7) rfl rfl ?_
   refine wq rfl rfl rfl (ov_pick_false rfl (guard_eq rfl hc7) rfl) ?_
   exact WL.nil ⟨Sub.cons' rfl (congrArg Value.bool (Option.some.inj hm)) (Sub.dropn 2 rfl), fun _ s => s⟩
  refine wq rfl rfl rfl (ov_assign rfl rfl) ?_
  refine WL.nil (tn (WP.ret (then_ret ?_)))
  obtain rfl := Option.some.inj hm
  refine retQ_ret results5 (Res.tmp rfl Res.nil) rfl (fun w' s => ⟨s.below, ?_⟩)
  exact rfl
 replace hm := ite_f hc6 hm
 refine WP.skip (tn (WP.seq (WP.region ?_)))
 refine wq rfl rfl rfl (ov_load_whole (i := 0) isAgg28 sizeOf28 rfl rfl rfl rfl) ?_
 refine wq rfl rfl rfl (ov_move rfl rfl) ?_
 obtain ⟨r5, e6, hm⟩ := bind_some hm
 refine ws rfl (os_con call20 rfl rfl (fun w' s => (program_Sequence_con p_x p_on ao1 cap1 ao2 cap2 ao3 cap3  w' H1 s.hold h1 hc1 h2 hc2 h3 hc3 hG r5 e6)) (fun rr2 H2 hle2 hR2 => ?_))
 replace h1 := h1.mono hle2
 replace h2 := h2.mono hle2
 replace h3 := h3.mono hle2
 replace h4 := h4.mono hle2
 replace hG := hG.mono hle2
 obtain ⟨ao5, cap5, rfl, h5, hc8⟩ := hR2
 refine wq rfl rfl rfl (ov_move rfl rfl) ?_
 refine wq rfl rfl rfl (ov_extract rfl rfl rfl) ?_
 refine wq rfl rfl rfl (ov_extract rfl rfl rfl) ?_
 refine ws rfl (os_alloc (cs := [(.int .i64 0), (.slice none 0 0)]) zeroValue48 rfl rfl (fun b2 => ?_))
 refine ws0 rfl (os_store (i := 0) (vs := [(.int .i64 r5.1.actuators), (.slice ao5 r5.1.steps.length cap5)]) (cs' := [(.int .i64 r5.1.actuators), (.slice ao5 r5.1.steps.length cap5)]) sizeOf48 rfl rfl rfl rfl rfl rfl rfl rfl rfl ?_)
 refine wq rfl rfl rfl (ov_assign rfl rfl) ?_
 refine WL.nil (tn (WP.seq (WP.seq (WP.region ?_))))
 refine wq rfl rfl rfl (ov_move rfl rfl) ?_
 refine wq rfl rfl rfl (ov_neq rfl rfl rfl) ?_
 refine WL.nil (tn ?_)
 refine WP.cond rfl (fun hc9 => ?_) (fun hc9 => ?_)
 ·
  replace hm := ite_t hc9 hm
  refine WP.seq (WP.region ?_)
  refine wq rfl rfl rfl (ov_load_whole (i := 1) isAgg28 sizeOf28 rfl rfl rfl rfl) ?_
  refine wq rfl rfl rfl (ov_move rfl rfl) ?_
  obtain ⟨r6, e7, hm⟩ := bind_some hm
  refine ws rfl (os_con call20 rfl rfl (fun w' s => (program_Sequence_con p_x r3.1 ao1 cap1 ao2 cap2 ao4 cap4  w' H2 s.hold h1 hc1 h2 hc2 h4 hc5 hG r6 e7)) (fun rr3 H3 hle3 hR3 => ?_))
  replace h1 := h1.mono hle3
  replace h2 := h2.mono hle3
  replace h3 := h3.mono hle3
  replace h5 := h5.mono hle3
  replace hG := hG.mono hle3
  obtain ⟨ao6, cap6, rfl, h6, hc10⟩ := hR3
  refine wq rfl rfl rfl (ov_move rfl rfl) ?_
  refine wq rfl rfl rfl (ov_extract rfl rfl rfl) ?_
  refine wq rfl rfl rfl (ov_extract rfl rfl rfl) ?_
  refine ws rfl (os_alloc (cs := [(.int .i64 0), (.slice none 0 0)]) zeroValue48 rfl rfl (fun b3 => ?_))
  refine ws0 rfl (os_store (i := 0) (vs := [(.int .i64 r6.1.actuators), (.slice ao6 r6.1.steps.length cap6)]) (cs' := [(.int .i64 r6.1.actuators), (.slice ao6 r6.1.steps.length cap6)]) sizeOf48 rfl rfl rfl rfl rfl rfl rfl rfl rfl ?_)
  refine wq rfl rfl rfl (ov_assign rfl rfl) ?_
  refine WL.nil (tn (WP.seq (WP.region ?_)))
  refine wq rfl rfl rfl (ov_move rfl rfl) ?_
  refine wq rfl rfl rfl (ov_move rfl rfl) ?_
  refine wq rfl rfl rfl (ov_eql rfl rfl rfl) ?_
  refine wq rfl rfl rfl (ov_move rfl rfl) ?_
  obtain ⟨c2, e8, hm⟩ := bind_some hm
  refine WL.cut_bool 2 51 (x := c2) ?_ ?_
  ·
   rcases Bool.eq_false_or_eq_true (r6.2 == r3.2.1) with hc11 | hc11
   ·
    replace hm := ite_t hc11 e8
    obtain ⟨r7, e9, hm⟩ := bind_some hm
    refine WL.quiet (Runs.yes rfl rfl rfl hc11) rfl rfl (oq_con (r := (.bool r7)) call11 rfl rfl (fun w' s => ⟨_, (law15_awake_con   w' H3 s.hold hG r7 e9)⟩)) ?_
    refine wq rfl rfl rfl (ov_pick_true rfl (guard_eq rfl hc11) rfl) ?_
    exact WL.nil ⟨Sub.cons' rfl (congrArg Value.bool (Option.some.inj hm)) (Sub.dropn 2 rfl), fun _ s => s⟩
   replace hm := ite_f hc11 e8
   refine WL.idle (Idle.no rfl rfl rfl hc11) rfl rfl ?_
   refine wq rfl rfl rfl (ov_pick_false rfl (guard_eq rfl hc11) rfl) ?_
   exact WL.nil ⟨Sub.cons' rfl (congrArg Value.bool (Option.some.inj hm)) (Sub.dropn 2 rfl), fun _ s => s⟩
  refine wq rfl rfl rfl (ov_assign rfl rfl) ?_
  refine WL.nil (tn (WP.ret (then_ret ?_)))
  obtain rfl := Option.some.inj hm
  refine retQ_ret results5 (Res.tmp rfl Res.nil) rfl (fun w' s => ⟨s.below, ?_⟩)
  exact rfl
 replace hm := ite_f hc9 hm
 refine WP.skip (tn (WP.seq (WP.region ?_)))
 refine wq rfl rfl rfl (ov_load_whole (i := 1) isAgg28 sizeOf28 rfl rfl rfl rfl) ?_
 refine wq rfl rfl rfl (ov_move rfl rfl) ?_
 obtain ⟨r8, e10, hm⟩ := bind_some hm
 refine ws rfl (os_con call18 rfl rfl (fun w' s => (program_Unfold_con p_x p_on ao1 cap1 ao2 cap2 ao3 cap3  w' H2 s.hold h1 hc1 h2 hc2 h3 hc3 hG r8 e10)) (fun rr4 H4 hle4 hR4 => ?_))
 replace h5 := h5.mono hle4
 replace hG := hG.mono hle4
 obtain ⟨ao7, cap7, rfl, h7, hc12⟩ := hR4
 refine wq rfl rfl rfl (ov_move rfl rfl) ?_
 refine wq rfl rfl rfl (ov_extract rfl rfl rfl) ?_
 refine wq rfl rfl rfl (ov_extract rfl rfl rfl) ?_
 refine wq rfl rfl rfl (ov_assign rfl rfl) ?_
 refine wq rfl rfl rfl (ov_assign rfl rfl) ?_
 refine WL.nil (tn (WP.seq (WP.region ?_)))
 refine wq rfl rfl rfl (ov_move rfl rfl) ?_
 refine wq rfl rfl rfl (ov_eql rfl rfl rfl) ?_
 refine wq rfl rfl rfl (ov_move rfl rfl) ?_
 refine WL.cut_bool 3 63 (x := ((r5.2 == 0) && (r8.2 == 0))) ?_ ?_
 ·
  rcases Bool.eq_false_or_eq_true (r5.2 == 0) with hc13 | hc13
  ·
   refine wy hc13 rfl (ov_move rfl rfl) ?_
   refine wy hc13 rfl (ov_eql rfl rfl rfl) ?_
   refine wq rfl rfl rfl (ov_pick_true rfl (guard_eq rfl hc13) rfl) ?_
   exact WL.nil ⟨Sub.cons' rfl (congrArg Value.bool (andT hc13)) (Sub.dropn 3 rfl), fun _ s => s⟩
  refine WL.idle (Idle.no rfl rfl rfl hc13) rfl rfl ?_
  refine WL.idle (Idle.no rfl rfl rfl hc13) rfl rfl ?_
  refine wq rfl rfl rfl (ov_pick_false rfl (guard_eq rfl hc13) rfl) ?_
  exact WL.nil ⟨Sub.cons' rfl (congrArg Value.bool (andF hc13)) (Sub.dropn 3 rfl), fun _ s => s⟩
 refine wq rfl rfl rfl (ov_move rfl rfl) ?_
 obtain ⟨c3, e11, hm⟩ := bind_some hm
 refine WL.cut_bool 4 68 (x := c3) ?_ ?_
 ·
  rcases Bool.eq_false_or_eq_true ((r5.2 == 0) && (r8.2 == 0)) with hc14 | hc14
  ·
   replace hm := ite_t hc14 e11
   refine wy hc14 rfl (ov_load_whole (i := 0) isAgg48 sizeOf48 rfl rfl rfl rfl) ?_
   obtain ⟨r9, e12, hm⟩ := bind_some hm
   refine WL.quiet (Runs.yes rfl rfl rfl hc14) rfl rfl (oq_con (r := (.int .i64 r9)) call26 rfl rfl (fun w' s => ⟨_, (sequence_Check_con r5.1 ao5 cap5  w' H4 s.hold h5 hc8 hG r9 e12)⟩)) ?_
   refine wy hc14 rfl (ov_eql rfl rfl rfl) ?_
   refine wq rfl rfl rfl (ov_pick_true rfl (guard_eq rfl hc14) rfl) ?_
   exact WL.nil ⟨Sub.cons' rfl (congrArg Value.bool (Option.some.inj hm)) (Sub.dropn 4 rfl), fun _ s => s⟩
  replace hm := ite_f hc14 e11
  refine WL.idle (Idle.no rfl rfl rfl hc14) rfl rfl ?_
  refine WL.idle (Idle.no rfl rfl rfl hc14) rfl rfl ?_
  refine WL.idle (Idle.no rfl rfl rfl hc14) rfl rfl ?_
  refine wq rfl rfl rfl (ov_pick_false rfl (guard_eq rfl hc14) rfl) ?_
  exact WL.nil ⟨Sub.cons' rfl (congrArg Value.bool (Option.some.inj hm)) (Sub.dropn 4 rfl), fun _ s => s⟩
 refine wq rfl rfl rfl (ov_move rfl rfl) ?_
 obtain ⟨c4, e13, hm⟩ := bind_some hm
 refine WL.cut_bool 5 74 (x := c4) ?_ ?_
 ·
  rcases Bool.eq_false_or_eq_true c3 with hc15 | hc15
  ·
   replace hm := ite_t hc15 e13
   refine wy hc15 rfl (ov_move rfl rfl) ?_
   refine wy hc15 rfl (ov_fieldAddr underlying48 rfl rfl rfl sizeOf42 rfl rfl) ?_
   refine wy hc15 rfl (ov_load_box (i := 0) isAgg42 rfl rfl rfl rfl) ?_
   obtain ⟨r10, e14, hm⟩ := bind_some hm
   refine WL.quiet (Runs.yes rfl rfl rfl hc15) rfl rfl (oq_con (r := (.bool r10)) call22 rfl rfl (fun w' s => ⟨_, (ref13_SameSteps_con r8.1 r5.1.steps ao7 cap7 ao5 cap5  w' H4 s.hold h7 hc12 h5 hc8 hG r10 e14)⟩)) ?_
   refine wq rfl rfl rfl (ov_pick_true rfl (guard_eq rfl hc15) rfl) ?_
   exact WL.nil ⟨Sub.cons' rfl (congrArg Value.bool (Option.some.inj hm)) (Sub.dropn 5 rfl), fun _ s => s⟩
  replace hm := ite_f hc15 e13
  refine WL.idle (Idle.no rfl rfl rfl hc15) rfl rfl ?_
  refine WL.idle (Idle.no rfl rfl rfl hc15) rfl rfl ?_
  refine WL.idle (Idle.no rfl rfl rfl hc15) rfl rfl ?_
  refine WL.idle (Idle.no rfl rfl rfl hc15) rfl rfl ?_
  refine wq rfl rfl rfl (ov_pick_false rfl (guard_eq rfl hc15) rfl) ?_
  exact WL.nil ⟨Sub.cons' rfl (congrArg Value.bool (Option.some.inj hm)) (Sub.dropn 5 rfl), fun _ s => s⟩
 refine wq rfl rfl rfl (ov_move rfl rfl) ?_
 refine WL.cut_bool 4 79 (x := (c4 && ((r3.1.length : Int) == 0))) ?_ ?_
 ·
  rcases Bool.eq_false_or_eq_true c4 with hc16 | hc16
  ·
   refine wy hc16 rfl (ov_move rfl rfl) ?_
   refine wy hc16 rfl (ov_len_slice underlying36 rfl rfl) ?_
   refine wy hc16 rfl (ov_eql rfl rfl rfl) ?_
   refine wq rfl rfl rfl (ov_pick_true rfl (guard_eq rfl hc16) rfl) ?_
   exact WL.nil ⟨Sub.cons' rfl (congrArg Value.bool (andT hc16)) (Sub.dropn 4 rfl), fun _ s => s⟩
  refine WL.idle (Idle.no rfl rfl rfl hc16) rfl rfl ?_
  refine WL.idle (Idle.no rfl rfl rfl hc16) rfl rfl ?_
  refine WL.idle (Idle.no rfl rfl rfl hc16) rfl rfl ?_
  refine wq rfl rfl rfl (ov_pick_false rfl (guard_eq rfl hc16) rfl) ?_
  exact WL.nil ⟨Sub.cons' rfl (congrArg Value.bool (andF hc16)) (Sub.dropn 4 rfl), fun _ s => s⟩
 refine wq rfl rfl rfl (ov_move rfl rfl) ?_
 obtain ⟨c5, e15, hm⟩ := bind_some hm
 refine WL.cut_bool 2 82 (x := c5) ?_ ?_
 ·
  rcases Bool.eq_false_or_eq_true (c4 && ((r3.1.length : Int) == 0)) with hc17 | hc17
  ·
   replace hm := ite_t hc17 e15
   obtain ⟨r11, e16, hm⟩ := bind_some hm
   refine WL.quiet (Runs.yes rfl rfl rfl hc17) rfl rfl (oq_con (r := (.bool r11)) call11 rfl rfl (fun w' s => ⟨_, (law15_awake_con   w' H4 s.hold hG r11 e16)⟩)) ?_
   refine wq rfl rfl rfl (ov_pick_true rfl (guard_eq rfl hc17) rfl) ?_
   exact WL.nil ⟨Sub.cons' rfl (congrArg Value.bool (Option.some.inj hm)) (Sub.dropn 2 rfl), fun _ s => s⟩
  replace hm := ite_f hc17 e15
  refine WL.idle (Idle.no rfl rfl rfl hc17) rfl rfl ?_
  refine wq rfl rfl rfl (ov_pick_false rfl (guard_eq rfl hc17) rfl) ?_
  exact WL.nil ⟨Sub.cons' rfl (congrArg Value.bool (Option.some.inj hm)) (Sub.dropn 2 rfl), fun _ s => s⟩
 refine wq rfl rfl rfl (ov_assign rfl rfl) ?_
 refine WL.nil (tn (WP.ret ?_))
 obtain rfl := Option.some.inj hm
 refine retQ_ret results5 (Res.tmp rfl Res.nil) rfl (fun w' s => ⟨s.below, ?_⟩)
 exact rfl
end Go.Proofs.YtgpfgnpdbmbknaaGreatDoor.W
