/- The walks. Written by our own program gen.py; Lean checks it. -/
import Derived.Test.YtbckcjjffbgidaaGreatDoorPlain
import Derived.Test.YtbckcjjffbgidaaGreatDoorEqs
import Derived.Test.YtbckcjjffbgidaaGreatDoorProg
import Derived.Test.YtbckcjjffbgidaaGreatDoorExt
import Derived.Test.YtbckcjjffbgidaaGreatDoorBuild
import Derived.Test.YtbckcjjffbgidaaGreatDoorClone
import Derived.Test.YtbckcjjffbgidaaGreatDoorWalk7
import Derived.Test.YtbckcjjffbgidaaGreatDoorWalk8
import Derived.Test.YtbckcjjffbgidaaGreatDoorWalk10
import Derived.Test.YtbckcjjffbgidaaGreatDoorWalk11
import Derived.Test.YtbckcjjffbgidaaGreatDoorWalk16
import Derived.Test.YtbckcjjffbgidaaGreatDoorWalk23
set_option linter.unusedVariables false
set_option maxRecDepth 100000
set_option maxHeartbeats 4000000
namespace Go.Proofs.YtbckcjjffbgidaaGreatDoor.W
open Go Go.RowKit Go.Proofs.Tryz
theorem law16_DiagramDraws_con (p_s : Sequence) (p_k : Int) (ao1 : Option Addr) (cap1 : Nat) (w : World) (H : Heap) (hH : Le H (hp w)) (h1 : SL H encStep ao1 p_s.steps) (hc1 : p_s.steps.length ≤ cap1) (hG : Glob H) (r : Bool) (hm : law16_DiagramDraws p_s p_k = some r) :
  Con prog 3 [(.agg #[(.int .i64 p_s.actuators), (.slice ao1 p_s.steps.length cap1)]), (.int .i64 p_k)] w H (fun v _ => v = (.bool r)) := by
 unfold law16_DiagramDraws at hm
 refine con_of hH func3 rfl 84 ntmps3 rfl ?_
 refine WP.seq (WP.region ?_)
 refine ws rfl (os_box (cs := [(.int .i64 p_s.actuators), (.slice ao1 p_s.steps.length cap1)]) rfl rfl rfl (fun b1 => ?_))
 refine Va rfl (WL.nil (tn (WP.seq (WP.seq (WP.region (V rfl (ov_load_whole (i := 0) isAgg24 sizeOf24 rfl rfl rfl rfl) ?_))))))
 obtain ⟨r1, e1, hm⟩ := bind_some hm
 refine wo rfl (oq_con (r := (.bool r1)) call11 rfl rfl (fun w' s => ⟨_, (law16_few_con p_s ao1 cap1  w' H s.hold h1 hc1 hG r1 e1)⟩)) ?_
 refine V rfl (ov_not rfl rfl) (WL.nil (tn ?_))
 refine WP.cond rfl (fun hc2 => ?_) (fun hc2 => ?_)
 ·
  replace hm := ite_t hc2 hm
  refine WP.seq (WP.region ?_)
  obtain ⟨r2, e2, hm⟩ := bind_some hm
  refine wo rfl (oq_con (r := (.bool r2)) call12 rfl rfl (fun w' s => ⟨_, (law16_awake_con   w' H s.hold hG r2 e2)⟩)) ?_
  refine Va rfl (WL.nil (tn (WP.ret (then_ret ?_))))
  obtain rfl := Option.some.inj hm
  refine retQ_ret results3 (Res.tmp rfl Res.nil) rfl (fun w' s => ⟨s.below, ?_⟩)
  exact rfl
 replace hm := ite_f hc2 hm
 refine WP.skip (tn (WP.seq (WP.region (V rfl (ov_load_whole (i := 0) isAgg24 sizeOf24 rfl rfl rfl rfl) ?_))))
 obtain ⟨r3, e3, hm⟩ := bind_some hm
 refine ws rfl (os_con call13 rfl rfl (fun w' s => (diagram_Draw_con p_s ao1 cap1  w' H s.hold h1 hc1 hG r3 e3)) (fun rr1 H1 hle1 hR1 => ?_))
 replace h1 := h1.mono hle1
 replace hG := hG.mono hle1
 obtain ⟨ao2, cap2, rfl, h2, hc3⟩ := hR1
 refine Vm rfl (Ve rfl (Ve rfl (Va rfl (Va rfl (WL.nil (tn (WP.seq (WP.region (V rfl (ov_load_whole (i := 0) isAgg24 sizeOf24 rfl rfl rfl rfl) ?_)))))))))
 obtain ⟨r4, e4, hm⟩ := bind_some hm
 refine ws rfl (os_con call14 rfl rfl (fun w' s => (ref16_Draw_con p_s ao1 cap1  w' H1 s.hold h1 hc1 hG r4 e4)) (fun rr2 H2 hle2 hR2 => ?_))
 replace h1 := h1.mono hle2
 replace h2 := h2.mono hle2
 replace hG := hG.mono hle2
 obtain ⟨ao3, cap3, rfl, h3, hc4⟩ := hR2
 refine Vm rfl (Ve rfl (Ve rfl (Va rfl (Va rfl (WL.nil (tn (WP.seq (WP.region (V rfl (ov_load_whole (i := 0) isAgg24 sizeOf24 rfl rfl rfl rfl) (Vm rfl ?_))))))))))
 obtain ⟨r5, e5, hm⟩ := bind_some hm
 refine wo rfl (oq_con (r := (.tuple #[(mkS r5.1), (.int .i64 r5.2)])) call15 rfl rfl (fun w' s => ⟨_, (diagram_Column_con p_s p_k ao1 cap1  w' H2 s.hold h1 hc1 hG r5 e5)⟩)) ?_
 refine Vm rfl (Ve rfl (Ve rfl (Va rfl (Va rfl (WL.nil (tn (WP.seq (WP.region (V rfl (ov_load_whole (i := 0) isAgg24 sizeOf24 rfl rfl rfl rfl) (Vm rfl ?_))))))))))
 obtain ⟨r6, e6, hm⟩ := bind_some hm
 refine wo rfl (oq_con (r := (.tuple #[(mkS r6.1), (.int .i64 r6.2)])) call16 rfl rfl (fun w' s => ⟨_, (ref16_Column_con p_s p_k ao1 cap1  w' H2 s.hold h1 hc1 hG r6 e6)⟩)) ?_
 refine Vm rfl (Ve rfl (Ve rfl (Va rfl (Va rfl (WL.nil (tn (WP.seq (WP.region (V rfl (ov_load_whole (i := 0) isAgg24 sizeOf24 rfl rfl rfl rfl) ?_)))))))))
 obtain ⟨r7, e7, hm⟩ := bind_some hm
 refine ws rfl (os_con call17 rfl rfl (fun w' s => (diagram_Switches_con p_s ao1 cap1  w' H2 s.hold h1 hc1 hG r7 e7)) (fun rr3 H3 hle3 hR3 => ?_))
 replace h1 := h1.mono hle3
 replace h2 := h2.mono hle3
 replace h3 := h3.mono hle3
 replace hG := hG.mono hle3
 obtain ⟨ao4, cap4, rfl, h4, hc5⟩ := hR3
 refine Vm rfl (Ve rfl (Ve rfl (Va rfl (Va rfl (WL.nil (tn (WP.seq (WP.region (V rfl (ov_load_whole (i := 0) isAgg24 sizeOf24 rfl rfl rfl rfl) ?_)))))))))
 obtain ⟨r8, e8, hm⟩ := bind_some hm
 refine ws rfl (os_con call18 rfl rfl (fun w' s => (ref16_Switches_con p_s ao1 cap1  w' H3 s.hold h1 hc1 hG r8 e8)) (fun rr4 H4 hle4 hR4 => ?_))
 replace h1 := h1.mono hle4
 replace h2 := h2.mono hle4
 replace h3 := h3.mono hle4
 replace h4 := h4.mono hle4
 replace hG := hG.mono hle4
 obtain ⟨ao5, cap5, rfl, h5, hc6⟩ := hR4
 refine Vm rfl (Ve rfl (Ve rfl (Va rfl (Va rfl (WL.nil (tn (WP.seq (WP.region ?_))))))))
 obtain ⟨r9, e9, hm⟩ := bind_some hm
 refine wo rfl (oq_con (r := (.bool r9)) call12 rfl rfl (fun w' s => ⟨_, (law16_awake_con   w' H4 s.hold hG r9 e9)⟩)) ?_
 refine Vm rfl ?_
 obtain ⟨c1, e10, hm⟩ := bind_some hm
 refine WL.cut_bool 4 58 (x := c1) ?_ ?_
 ·
  rcases Bool.eq_false_or_eq_true r9 with hc7 | hc7
  ·
   replace hm := ite_t hc7 e10
   refine wy hc7 rfl (ov_move rfl rfl) ?_
   refine wy hc7 rfl (ov_move rfl rfl) ?_
   obtain ⟨r10, e11, hm⟩ := bind_some hm
   refine WL.quiet (Runs.yes rfl rfl rfl hc7) rfl rfl (oq_con (r := (.bool r10)) call19 rfl rfl (fun w' s => ⟨_, (slices_Equal_stringstring_con r3.1 r4.1 ao2 cap2 ao3 cap3  w' H4 s.hold h2 hc3 h3 hc4 hG r10 e11)⟩)) ?_
   refine V rfl (ov_pick_true rfl (guard_eq rfl hc7) rfl) ?_
   exact WL.nil ⟨Sub.cons' rfl (congrArg Value.bool (Option.some.inj hm)) (Sub.dropn 4 rfl), fun _ s => s⟩
  replace hm := ite_f hc7 e10
  refine Vi rfl (Idle.no rfl rfl rfl hc7) (Vi rfl (Idle.no rfl rfl rfl hc7) (Vi rfl (Idle.no rfl rfl rfl hc7) (V rfl (ov_pick_false rfl (guard_eq rfl hc7) rfl) ?_)))
  exact WL.nil ⟨Sub.cons' rfl (congrArg Value.bool (Option.some.inj hm)) (Sub.dropn 4 rfl), fun _ s => s⟩
 refine Vm rfl ?_
 refine WL.cut_bool 4 63 (x := (c1 && (r3.2 == r4.2))) ?_ ?_
 ·
  rcases Bool.eq_false_or_eq_true c1 with hc8 | hc8
  ·
   refine wy hc8 rfl (ov_move rfl rfl) ?_
   refine wy hc8 rfl (ov_move rfl rfl) ?_
   refine wy hc8 rfl (ov_eql rfl rfl rfl) ?_
   refine V rfl (ov_pick_true rfl (guard_eq rfl hc8) rfl) ?_
   exact WL.nil ⟨Sub.cons' rfl (congrArg Value.bool (andT hc8)) (Sub.dropn 4 rfl), fun _ s => s⟩
  refine Vi rfl (Idle.no rfl rfl rfl hc8) (Vi rfl (Idle.no rfl rfl rfl hc8) (Vi rfl (Idle.no rfl rfl rfl hc8) (V rfl (ov_pick_false rfl (guard_eq rfl hc8) rfl) ?_)))
  exact WL.nil ⟨Sub.cons' rfl (congrArg Value.bool (andF hc8)) (Sub.dropn 4 rfl), fun _ s => s⟩
 refine Vm rfl ?_
 refine WL.cut_bool 4 68 (x := ((c1 && (r3.2 == r4.2)) && (r5.1 == r6.1))) ?_ ?_
 ·
  rcases Bool.eq_false_or_eq_true (c1 && (r3.2 == r4.2)) with hc9 | hc9
  ·
   refine wy hc9 rfl (ov_move rfl rfl) ?_
   refine wy hc9 rfl (ov_move rfl rfl) ?_
   refine wy hc9 rfl (ov_seql rfl rfl rfl) ?_
   refine V rfl (ov_pick_true rfl (guard_eq rfl hc9) rfl) ?_
   exact WL.nil ⟨Sub.cons' rfl (congrArg Value.bool (andT hc9)) (Sub.dropn 4 rfl), fun _ s => s⟩
  refine Vi rfl (Idle.no rfl rfl rfl hc9) (Vi rfl (Idle.no rfl rfl rfl hc9) (Vi rfl (Idle.no rfl rfl rfl hc9) (V rfl (ov_pick_false rfl (guard_eq rfl hc9) rfl) ?_)))
  exact WL.nil ⟨Sub.cons' rfl (congrArg Value.bool (andF hc9)) (Sub.dropn 4 rfl), fun _ s => s⟩
 refine Vm rfl ?_
 refine WL.cut_bool 4 73 (x := (((c1 && (r3.2 == r4.2)) && (r5.1 == r6.1)) && (r5.2 == r6.2))) ?_ ?_
 ·
  rcases Bool.eq_false_or_eq_true ((c1 && (r3.2 == r4.2)) && (r5.1 == r6.1)) with hc10 | hc10
  ·
   refine wy hc10 rfl (ov_move rfl rfl) ?_
   refine wy hc10 rfl (ov_move rfl rfl) ?_
   refine wy hc10 rfl (ov_eql rfl rfl rfl) ?_
   refine V rfl (ov_pick_true rfl (guard_eq rfl hc10) rfl) ?_
   exact WL.nil ⟨Sub.cons' rfl (congrArg Value.bool (andT hc10)) (Sub.dropn 4 rfl), fun _ s => s⟩
  refine Vi rfl (Idle.no rfl rfl rfl hc10) (Vi rfl (Idle.no rfl rfl rfl hc10) (Vi rfl (Idle.no rfl rfl rfl hc10) (V rfl (ov_pick_false rfl (guard_eq rfl hc10) rfl) ?_)))
  exact WL.nil ⟨Sub.cons' rfl (congrArg Value.bool (andF hc10)) (Sub.dropn 4 rfl), fun _ s => s⟩
 refine Vm rfl ?_
 obtain ⟨c2, e12, hm⟩ := bind_some hm
 refine WL.cut_bool 4 78 (x := c2) ?_ ?_
 ·
  rcases Bool.eq_false_or_eq_true (((c1 && (r3.2 == r4.2)) && (r5.1 == r6.1)) && (r5.2 == r6.2)) with hc11 | hc11
  ·
   replace hm := ite_t hc11 e12
   refine wy hc11 rfl (ov_move rfl rfl) ?_
   refine wy hc11 rfl (ov_move rfl rfl) ?_
   obtain ⟨r11, e13, hm⟩ := bind_some hm
   refine WL.quiet (Runs.yes rfl rfl rfl hc11) rfl rfl (oq_con (r := (.bool r11)) call19 rfl rfl (fun w' s => ⟨_, (slices_Equal_stringstring_con r7.1 r8.1 ao4 cap4 ao5 cap5  w' H4 s.hold h4 hc5 h5 hc6 hG r11 e13)⟩)) ?_
   refine V rfl (ov_pick_true rfl (guard_eq rfl hc11) rfl) ?_
   exact WL.nil ⟨Sub.cons' rfl (congrArg Value.bool (Option.some.inj hm)) (Sub.dropn 4 rfl), fun _ s => s⟩
  replace hm := ite_f hc11 e12
  refine Vi rfl (Idle.no rfl rfl rfl hc11) (Vi rfl (Idle.no rfl rfl rfl hc11) (Vi rfl (Idle.no rfl rfl rfl hc11) (V rfl (ov_pick_false rfl (guard_eq rfl hc11) rfl) ?_)))
  exact WL.nil ⟨Sub.cons' rfl (congrArg Value.bool (Option.some.inj hm)) (Sub.dropn 4 rfl), fun _ s => s⟩
 refine Vm rfl ?_
 refine WL.cut_bool 4 83 (x := (c2 && (r7.2 == r8.2))) ?_ ?_
 ·
  rcases Bool.eq_false_or_eq_true c2 with hc12 | hc12
  ·
   refine wy hc12 rfl (ov_move rfl rfl) ?_
   refine wy hc12 rfl (ov_move rfl rfl) ?_
   refine wy hc12 rfl (ov_eql rfl rfl rfl) ?_
   refine V rfl (ov_pick_true rfl (guard_eq rfl hc12) rfl) ?_
   exact WL.nil ⟨Sub.cons' rfl (congrArg Value.bool (andT hc12)) (Sub.dropn 4 rfl), fun _ s => s⟩
  refine Vi rfl (Idle.no rfl rfl rfl hc12) (Vi rfl (Idle.no rfl rfl rfl hc12) (Vi rfl (Idle.no rfl rfl rfl hc12) (V rfl (ov_pick_false rfl (guard_eq rfl hc12) rfl) ?_)))
  exact WL.nil ⟨Sub.cons' rfl (congrArg Value.bool (andF hc12)) (Sub.dropn 4 rfl), fun _ s => s⟩
 refine Va rfl (WL.nil (tn (WP.ret ?_)))
 obtain rfl := Option.some.inj hm
 refine retQ_ret results3 (Res.tmp rfl Res.nil) rfl (fun w' s => ⟨s.below, ?_⟩)
 exact rfl
end Go.Proofs.YtbckcjjffbgidaaGreatDoor.W
