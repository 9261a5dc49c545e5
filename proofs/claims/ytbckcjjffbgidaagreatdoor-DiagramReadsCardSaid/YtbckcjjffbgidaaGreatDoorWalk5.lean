/- The walks. Written by our own program gen.py; Lean checks it. -/
import Derived.Test.YtbckcjjffbgidaaGreatDoorPlain
import Derived.Test.YtbckcjjffbgidaaGreatDoorEqs
import Derived.Test.YtbckcjjffbgidaaGreatDoorProg
import Derived.Test.YtbckcjjffbgidaaGreatDoorExt
import Derived.Test.YtbckcjjffbgidaaGreatDoorBuild
import Derived.Test.YtbckcjjffbgidaaGreatDoorClone
import Derived.Test.YtbckcjjffbgidaaGreatDoorWalk0
import Derived.Test.YtbckcjjffbgidaaGreatDoorWalk3
import Derived.Test.YtbckcjjffbgidaaGreatDoorWalk4
set_option linter.unusedVariables false
set_option maxRecDepth 100000
set_option maxHeartbeats 4000000
namespace Go.Proofs.YtbckcjjffbgidaaGreatDoor.W
open Go Go.RowKit Go.Proofs.Tryz
theorem law16_DiagramReads_con (p_lines : (List (List UInt8))) (ao1 : Option Addr) (cap1 : Nat) (w : World) (H : Heap) (hH : Le H (hp w)) (h1 : SL H encStr ao1 p_lines) (hc1 : p_lines.length ≤ cap1) (hG : Glob H) (r : Bool) (hm : law16_DiagramReads p_lines = some r) :
  Con prog 9 [(.slice ao1 p_lines.length cap1)] w H (fun v _ => v = (.bool r)) := by
 unfold law16_DiagramReads at hm
 refine con_of hH func9 rfl 65 ntmps9 rfl ?_
 refine WP.seq (WP.region (Va rfl (WL.nil (tn (WP.seq (WP.seq (WP.region (Vm rfl ?_))))))))
 obtain ⟨r1, e1, hm⟩ := bind_some hm
 refine wo rfl (oq_con (r := (.bool r1)) call29 rfl rfl (fun w' s => ⟨_, (ref16_FewLines_con p_lines ao1 cap1  w' H s.hold h1 hc1 hG r1 e1)⟩)) ?_
 refine V rfl (ov_not rfl rfl) (WL.nil (tn ?_))
 refine WP.cond rfl (fun hc2 => ?_) (fun hc2 => ?_)
 ·
  replace hm := ite_t hc2 hm
  refine WP.seq (WP.region ?_)
  obtain ⟨r2, e2, hm⟩ := bind_some hm
  refine wo rfl (oq_con (r := (.bool r2)) call12 rfl rfl (fun w' s => ⟨_, (law16_awake_con   w' H s.hold hG r2 e2)⟩)) ?_
  refine Va rfl (WL.nil (tn (WP.ret (then_ret ?_))))
  obtain rfl := Option.some.inj hm
  refine retQ_ret results9 (Res.tmp rfl Res.nil) rfl (fun w' s => ⟨s.below, ?_⟩)
  exact rfl
 replace hm := ite_f hc2 hm
 refine WP.skip (tn (WP.seq (WP.region (Vm rfl ?_))))
 obtain ⟨r3, e3, hm⟩ := bind_some hm
 refine ws rfl (os_con call30 rfl rfl (fun w' s => (diagram_Read_con p_lines ao1 cap1  w' H s.hold h1 hc1 hG r3 e3)) (fun rr1 H1 hle1 hR1 => ?_))
 replace h1 := h1.mono hle1
 replace hG := hG.mono hle1
 obtain ⟨ao2, cap2, rfl, h2, hc3⟩ := hR1
 refine Vm rfl (Ve rfl (Ve rfl ?_))
 refine ws rfl (os_alloc (cs := [(.int .i64 0), (.slice none 0 0)]) zeroValue24 rfl rfl (fun b1 => ?_))
 refine ws0 rfl (os_store (i := 0) (vs := [(.int .i64 r3.1.actuators), (.slice ao2 r3.1.steps.length cap2)]) (cs' := [(.int .i64 r3.1.actuators), (.slice ao2 r3.1.steps.length cap2)]) sizeOf24 rfl rfl rfl rfl rfl rfl rfl rfl rfl ?_)
 refine Va rfl (WL.nil (tn (WP.seq (WP.region (Vm rfl ?_)))))
 obtain ⟨r4, e4, hm⟩ := bind_some hm
 refine ws rfl (os_con call31 rfl rfl (fun w' s => (ref16_Read_con p_lines ao1 cap1  w' H1 s.hold h1 hc1 hG r4 e4)) (fun rr2 H2 hle2 hR2 => ?_))
 replace h1 := h1.mono hle2
 replace h2 := h2.mono hle2
 replace hG := hG.mono hle2
 obtain ⟨ao3, cap3, rfl, h3, hc4⟩ := hR2
 refine Vm rfl (Ve rfl (Ve rfl ?_))
 refine ws rfl (os_alloc (cs := [(.int .i64 0), (.slice none 0 0)]) zeroValue24 rfl rfl (fun b2 => ?_))
 refine ws0 rfl (os_store (i := 0) (vs := [(.int .i64 r4.1.actuators), (.slice ao3 r4.1.steps.length cap3)]) (cs' := [(.int .i64 r4.1.actuators), (.slice ao3 r4.1.steps.length cap3)]) sizeOf24 rfl rfl rfl rfl rfl rfl rfl rfl rfl ?_)
 refine Va rfl (WL.nil (tn (WP.seq (WP.region (Vm rfl ?_)))))
 obtain ⟨r5, e5, hm⟩ := bind_some hm
 refine ws rfl (os_con call32 rfl rfl (fun w' s => (diagram_Unscale_con p_lines ao1 cap1  w' H2 s.hold h1 hc1 hG r5 e5)) (fun rr3 H3 hle3 hR3 => ?_))
 replace h1 := h1.mono hle3
 replace h2 := h2.mono hle3
 replace h3 := h3.mono hle3
 replace hG := hG.mono hle3
 obtain ⟨ao4, cap4, ao5, cap5, rfl, h4, hc5, h5, hc6⟩ := hR3
 refine Vm rfl (Ve rfl (Ve rfl (Ve rfl ?_)))
 refine ws rfl (os_alloc (cs := [(.int .i64 0), (.slice none 0 0)]) zeroValue24 rfl rfl (fun b3 => ?_))
 refine ws0 rfl (os_store (i := 0) (vs := [(.int .i64 r5.1.actuators), (.slice ao4 r5.1.steps.length cap4)]) (cs' := [(.int .i64 r5.1.actuators), (.slice ao4 r5.1.steps.length cap4)]) sizeOf24 rfl rfl rfl rfl rfl rfl rfl rfl rfl ?_)
 refine Va rfl (Va rfl (WL.nil (tn (WP.seq (WP.region (Vm rfl ?_))))))
 obtain ⟨r6, e6, hm⟩ := bind_some hm
 refine ws rfl (os_con call33 rfl rfl (fun w' s => (ref16_Unscale_con p_lines ao1 cap1  w' H3 s.hold h1 hc1 hG r6 e6)) (fun rr4 H4 hle4 hR4 => ?_))
 replace h2 := h2.mono hle4
 replace h3 := h3.mono hle4
 replace h4 := h4.mono hle4
 replace h5 := h5.mono hle4
 replace hG := hG.mono hle4
 obtain ⟨ao6, cap6, ao7, cap7, rfl, h6, hc7, h7, hc8⟩ := hR4
 refine Vm rfl (Ve rfl (Ve rfl (Ve rfl ?_)))
 refine ws rfl (os_alloc (cs := [(.int .i64 0), (.slice none 0 0)]) zeroValue24 rfl rfl (fun b4 => ?_))
 refine ws0 rfl (os_store (i := 0) (vs := [(.int .i64 r6.1.actuators), (.slice ao6 r6.1.steps.length cap6)]) (cs' := [(.int .i64 r6.1.actuators), (.slice ao6 r6.1.steps.length cap6)]) sizeOf24 rfl rfl rfl rfl rfl rfl rfl rfl rfl ?_)
 refine Va rfl (Va rfl (WL.nil (tn (WP.seq (WP.region ?_)))))
 obtain ⟨r7, e7, hm⟩ := bind_some hm
 refine wo rfl (oq_con (r := (.bool r7)) call12 rfl rfl (fun w' s => ⟨_, (law16_awake_con   w' H4 s.hold hG r7 e7)⟩)) ?_
 refine Vm rfl ?_
 obtain ⟨c1, e8, hm⟩ := bind_some hm
 refine WL.cut_bool 4 44 (x := c1) ?_ ?_
 ·
  rcases Bool.eq_false_or_eq_true r7 with hc9 | hc9
  ·
   replace hm := ite_t hc9 e8
   refine wy hc9 rfl (ov_load_whole (i := 3) isAgg24 sizeOf24 rfl rfl rfl rfl) ?_
   refine wy hc9 rfl (ov_load_whole (i := 2) isAgg24 sizeOf24 rfl rfl rfl rfl) ?_
   obtain ⟨r8, e9, hm⟩ := bind_some hm
   refine WL.quiet (Runs.yes rfl rfl rfl hc9) rfl rfl (oq_con (r := (.bool r8)) call34 rfl rfl (fun w' s => ⟨_, (ref14_Same_con r3.1 r4.1 ao2 cap2 ao3 cap3  w' H4 s.hold h2 hc3 h3 hc4 hG r8 e9)⟩)) ?_
   refine V rfl (ov_pick_true rfl (guard_eq rfl hc9) rfl) ?_
   exact WL.nil ⟨Sub.cons' rfl (congrArg Value.bool (Option.some.inj hm)) (Sub.dropn 4 rfl), fun _ s => s⟩
  replace hm := ite_f hc9 e8
  refine Vi rfl (Idle.no rfl rfl rfl hc9) (Vi rfl (Idle.no rfl rfl rfl hc9) (Vi rfl (Idle.no rfl rfl rfl hc9) (V rfl (ov_pick_false rfl (guard_eq rfl hc9) rfl) ?_)))
  exact WL.nil ⟨Sub.cons' rfl (congrArg Value.bool (Option.some.inj hm)) (Sub.dropn 4 rfl), fun _ s => s⟩
 refine Vm rfl ?_
 refine WL.cut_bool 4 49 (x := (c1 && (r3.2 == r4.2))) ?_ ?_
 ·
  rcases Bool.eq_false_or_eq_true c1 with hc10 | hc10
  ·
   refine wy hc10 rfl (ov_move rfl rfl) ?_
   refine wy hc10 rfl (ov_move rfl rfl) ?_
   refine wy hc10 rfl (ov_eql rfl rfl rfl) ?_
   refine V rfl (ov_pick_true rfl (guard_eq rfl hc10) rfl) ?_
   exact WL.nil ⟨Sub.cons' rfl (congrArg Value.bool (andT hc10)) (Sub.dropn 4 rfl), fun _ s => s⟩
  refine Vi rfl (Idle.no rfl rfl rfl hc10) (Vi rfl (Idle.no rfl rfl rfl hc10) (Vi rfl (Idle.no rfl rfl rfl hc10) (V rfl (ov_pick_false rfl (guard_eq rfl hc10) rfl) ?_)))
  exact WL.nil ⟨Sub.cons' rfl (congrArg Value.bool (andF hc10)) (Sub.dropn 4 rfl), fun _ s => s⟩
 refine Vm rfl ?_
 obtain ⟨c2, e10, hm⟩ := bind_some hm
 refine WL.cut_bool 4 54 (x := c2) ?_ ?_
 ·
  rcases Bool.eq_false_or_eq_true (c1 && (r3.2 == r4.2)) with hc11 | hc11
  ·
   replace hm := ite_t hc11 e10
   refine wy hc11 rfl (ov_load_whole (i := 1) isAgg24 sizeOf24 rfl rfl rfl rfl) ?_
   refine wy hc11 rfl (ov_load_whole (i := 0) isAgg24 sizeOf24 rfl rfl rfl rfl) ?_
   obtain ⟨r9, e11, hm⟩ := bind_some hm
   refine WL.quiet (Runs.yes rfl rfl rfl hc11) rfl rfl (oq_con (r := (.bool r9)) call34 rfl rfl (fun w' s => ⟨_, (ref14_Same_con r5.1 r6.1 ao4 cap4 ao6 cap6  w' H4 s.hold h4 hc5 h6 hc7 hG r9 e11)⟩)) ?_
   refine V rfl (ov_pick_true rfl (guard_eq rfl hc11) rfl) ?_
   exact WL.nil ⟨Sub.cons' rfl (congrArg Value.bool (Option.some.inj hm)) (Sub.dropn 4 rfl), fun _ s => s⟩
  replace hm := ite_f hc11 e10
  refine Vi rfl (Idle.no rfl rfl rfl hc11) (Vi rfl (Idle.no rfl rfl rfl hc11) (Vi rfl (Idle.no rfl rfl rfl hc11) (V rfl (ov_pick_false rfl (guard_eq rfl hc11) rfl) ?_)))
  exact WL.nil ⟨Sub.cons' rfl (congrArg Value.bool (Option.some.inj hm)) (Sub.dropn 4 rfl), fun _ s => s⟩
 refine Vm rfl ?_
 obtain ⟨c3, e12, hm⟩ := bind_some hm
 refine WL.cut_bool 4 59 (x := c3) ?_ ?_
 ·
  rcases Bool.eq_false_or_eq_true c2 with hc12 | hc12
  ·
   replace hm := ite_t hc12 e12
   refine wy hc12 rfl (ov_move rfl rfl) ?_
   refine wy hc12 rfl (ov_move rfl rfl) ?_
   obtain ⟨r10, e13, hm⟩ := bind_some hm
   refine WL.quiet (Runs.yes rfl rfl rfl hc12) rfl rfl (oq_con (r := (.bool r10)) call35 rfl rfl (fun w' s => ⟨_, (slices_Equal_intint_con r5.2.1 r6.2.1 ao5 cap5 ao7 cap7  w' H4 s.hold h5 hc6 h7 hc8 hG r10 e13)⟩)) ?_
   refine V rfl (ov_pick_true rfl (guard_eq rfl hc12) rfl) ?_
   exact WL.nil ⟨Sub.cons' rfl (congrArg Value.bool (Option.some.inj hm)) (Sub.dropn 4 rfl), fun _ s => s⟩
  replace hm := ite_f hc12 e12
  refine Vi rfl (Idle.no rfl rfl rfl hc12) (Vi rfl (Idle.no rfl rfl rfl hc12) (Vi rfl (Idle.no rfl rfl rfl hc12) (V rfl (ov_pick_false rfl (guard_eq rfl hc12) rfl) ?_)))
  exact WL.nil ⟨Sub.cons' rfl (congrArg Value.bool (Option.some.inj hm)) (Sub.dropn 4 rfl), fun _ s => s⟩
 refine Vm rfl ?_
 refine WL.cut_bool 4 64 (x := (c3 && (r5.2.2 == r6.2.2))) ?_ ?_
 ·
  rcases Bool.eq_false_or_eq_true c3 with hc13 | hc13
  ·
   refine wy hc13 rfl (ov_move rfl rfl) ?_
   refine wy hc13 rfl (ov_move rfl rfl) ?_
   refine wy hc13 rfl (ov_eql rfl rfl rfl) ?_
   refine V rfl (ov_pick_true rfl (guard_eq rfl hc13) rfl) ?_
   exact WL.nil ⟨Sub.cons' rfl (congrArg Value.bool (andT hc13)) (Sub.dropn 4 rfl), fun _ s => s⟩
  refine Vi rfl (Idle.no rfl rfl rfl hc13) (Vi rfl (Idle.no rfl rfl rfl hc13) (Vi rfl (Idle.no rfl rfl rfl hc13) (V rfl (ov_pick_false rfl (guard_eq rfl hc13) rfl) ?_)))
  exact WL.nil ⟨Sub.cons' rfl (congrArg Value.bool (andF hc13)) (Sub.dropn 4 rfl), fun _ s => s⟩
 refine Va rfl (WL.nil (tn (WP.ret ?_)))
 obtain rfl := Option.some.inj hm
 refine retQ_ret results9 (Res.tmp rfl Res.nil) rfl (fun w' s => ⟨s.below, ?_⟩)
 exact rfl
end Go.Proofs.YtbckcjjffbgidaaGreatDoor.W
