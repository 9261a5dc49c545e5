/- The walks. Written by our own program gen.py; Lean checks it. -/
import Derived.Test.YtbckcjjffbgidaaGreatDoorPlain
import Derived.Test.YtbckcjjffbgidaaGreatDoorEqs
import Derived.Test.YtbckcjjffbgidaaGreatDoorProg
import Derived.Test.YtbckcjjffbgidaaGreatDoorExt
import Derived.Test.YtbckcjjffbgidaaGreatDoorBuild
import Derived.Test.YtbckcjjffbgidaaGreatDoorClone
import Derived.Test.YtbckcjjffbgidaaGreatDoorWalk8
import Derived.Test.YtbckcjjffbgidaaGreatDoorWalk10
import Derived.Test.YtbckcjjffbgidaaGreatDoorWalk11
import Derived.Test.YtbckcjjffbgidaaGreatDoorWalk24
set_option linter.unusedVariables false
set_option maxRecDepth 100000
set_option maxHeartbeats 4000000
namespace Go.Proofs.YtbckcjjffbgidaaGreatDoor.W
open Go Go.RowKit Go.Proofs.Tryz
theorem law16_DiagramMarks_con (p_s : Sequence) (p_before : (List Int)) (ao1 : Option Addr) (cap1 : Nat) (ao2 : Option Addr) (cap2 : Nat) (w : World) (H : Heap) (hH : Le H (hp w)) (h1 : SL H encStep ao1 p_s.steps) (hc1 : p_s.steps.length ≤ cap1) (h2 : SL H (encInt .i64) ao2 p_before) (hc2 : p_before.length ≤ cap2) (hG : Glob H) (r : Bool) (hm : law16_DiagramMarks p_s p_before = some r) :
  Con prog 4 [(.agg #[(.int .i64 p_s.actuators), (.slice ao1 p_s.steps.length cap1)]), (.slice ao2 p_before.length cap2)] w H (fun v _ => v = (.bool r)) := by
 unfold law16_DiagramMarks at hm
 refine con_of hH func4 rfl 41 ntmps4 rfl ?_
 refine WP.seq (WP.region ?_)
 refine ws rfl (os_box (cs := [(.int .i64 p_s.actuators), (.slice ao1 p_s.steps.length cap1)]) rfl rfl rfl (fun b1 => ?_))
 refine Va rfl (WL.nil (tn (WP.seq (WP.seq (WP.region (V rfl (ov_load_whole (i := 0) isAgg24 sizeOf24 rfl rfl rfl rfl) ?_))))))
 obtain ⟨r1, e1, hm⟩ := bind_some hm
 refine wo rfl (oq_con (r := (.bool r1)) call11 rfl rfl (fun w' s => ⟨_, (law16_few_con p_s ao1 cap1  w' H s.hold h1 hc1 hG r1 e1)⟩)) ?_
 refine V rfl (ov_not rfl rfl) (Vm rfl ?_)
 refine WL.cut_bool 4 16 (x := ((!r1) || (decide ((p_before.length : Int) > 100)))) ?_ ?_
 ·
  rcases Bool.eq_false_or_eq_true (!r1) with hc3 | hc3
  ·
   refine Vi rfl (Idle.no rfl rfl rfl hc3) (Vi rfl (Idle.no rfl rfl rfl hc3) (Vi rfl (Idle.no rfl rfl rfl hc3) (V rfl (ov_pick_true rfl (guard_eq rfl hc3) rfl) ?_)))
   exact WL.nil ⟨Sub.cons' rfl (congrArg Value.bool (orT hc3)) (Sub.dropn 4 rfl), fun _ s => s⟩
  refine wy hc3 rfl (ov_move rfl rfl) ?_
  refine wy hc3 rfl (ov_len_slice underlying39 rfl rfl) ?_
  refine wy hc3 rfl (ov_gtr rfl rfl rfl) ?_
  refine V rfl (ov_pick_false rfl (guard_eq rfl hc3) rfl) ?_
  exact WL.nil ⟨Sub.cons' rfl (congrArg Value.bool (orF hc3)) (Sub.dropn 4 rfl), fun _ s => s⟩
 refine WL.nil (tn ?_)
 refine WP.cond rfl (fun hc4 => ?_) (fun hc4 => ?_)
 ·
  replace hm := ite_t hc4 hm
  refine WP.seq (WP.region ?_)
  obtain ⟨r2, e2, hm⟩ := bind_some hm
  refine wo rfl (oq_con (r := (.bool r2)) call12 rfl rfl (fun w' s => ⟨_, (law16_awake_con   w' H s.hold hG r2 e2)⟩)) ?_
  refine Va rfl (WL.nil (tn (WP.ret (then_ret ?_))))
  obtain rfl := Option.some.inj hm
  refine retQ_ret results4 (Res.tmp rfl Res.nil) rfl (fun w' s => ⟨s.below, ?_⟩)
  exact rfl
 replace hm := ite_f hc4 hm
 refine WP.skip (tn (WP.seq (WP.region (V rfl (ov_load_whole (i := 0) isAgg24 sizeOf24 rfl rfl rfl rfl) (Vm rfl ?_)))))
 obtain ⟨r3, e3, hm⟩ := bind_some hm
 refine ws rfl (os_con call20 rfl rfl (fun w' s => (diagram_Marks_con p_s p_before ao1 cap1 ao2 cap2  w' H s.hold h1 hc1 h2 hc2 hG r3 e3)) (fun rr1 H1 hle1 hR1 => ?_))
 replace h1 := h1.mono hle1
 replace h2 := h2.mono hle1
 replace hG := hG.mono hle1
 obtain ⟨ao3, cap3, rfl, h3, hc5⟩ := hR1
 refine Vm rfl (Ve rfl (Ve rfl (Va rfl (Va rfl (WL.nil (tn (WP.seq (WP.region (V rfl (ov_load_whole (i := 0) isAgg24 sizeOf24 rfl rfl rfl rfl) (Vm rfl ?_))))))))))
 obtain ⟨r4, e4, hm⟩ := bind_some hm
 refine ws rfl (os_con call21 rfl rfl (fun w' s => (ref16_Marks_con p_s p_before ao1 cap1 ao2 cap2  w' H1 s.hold h1 hc1 h2 hc2 hG r4 e4)) (fun rr2 H2 hle2 hR2 => ?_))
 replace h1 := h1.mono hle2
 replace h2 := h2.mono hle2
 replace h3 := h3.mono hle2
 replace hG := hG.mono hle2
 obtain ⟨ao4, cap4, rfl, h4, hc6⟩ := hR2
 refine Vm rfl (Ve rfl (Ve rfl (Va rfl (Va rfl (WL.nil (tn (WP.seq (WP.region ?_))))))))
 obtain ⟨r5, e5, hm⟩ := bind_some hm
 refine wo rfl (oq_con (r := (.bool r5)) call12 rfl rfl (fun w' s => ⟨_, (law16_awake_con   w' H2 s.hold hG r5 e5)⟩)) ?_
 refine Vm rfl ?_
 obtain ⟨c1, e6, hm⟩ := bind_some hm
 refine WL.cut_bool 4 35 (x := c1) ?_ ?_
 ·
  rcases Bool.eq_false_or_eq_true r5 with hc7 | hc7
  ·
   replace hm := ite_t hc7 e6
   refine wy hc7 rfl (ov_move rfl rfl) ?_
   refine wy hc7 rfl (ov_move rfl rfl) ?_
   obtain ⟨r6, e7, hm⟩ := bind_some hm
   refine WL.quiet (Runs.yes rfl rfl rfl hc7) rfl rfl (oq_con (r := (.bool r6)) call19 rfl rfl (fun w' s => ⟨_, (slices_Equal_stringstring_con r3.1 r4.1 ao3 cap3 ao4 cap4  w' H2 s.hold h3 hc5 h4 hc6 hG r6 e7)⟩)) ?_
   refine V rfl (ov_pick_true rfl (guard_eq rfl hc7) rfl) ?_
   exact WL.nil ⟨Sub.cons' rfl (congrArg Value.bool (Option.some.inj hm)) (Sub.dropn 4 rfl), fun _ s => s⟩
  replace hm := ite_f hc7 e6
  refine Vi rfl (Idle.no rfl rfl rfl hc7) (Vi rfl (Idle.no rfl rfl rfl hc7) (Vi rfl (Idle.no rfl rfl rfl hc7) (V rfl (ov_pick_false rfl (guard_eq rfl hc7) rfl) ?_)))
  exact WL.nil ⟨Sub.cons' rfl (congrArg Value.bool (Option.some.inj hm)) (Sub.dropn 4 rfl), fun _ s => s⟩
 refine Vm rfl ?_
 refine WL.cut_bool 4 40 (x := (c1 && (r3.2 == r4.2))) ?_ ?_
 ·
  rcases Bool.eq_false_or_eq_true c1 with hc8 | hc8
  ·
   refine wy hc8 rfl (ov_move rfl rfl) ?_
   refine wy hc8 rfl (ov_move rfl rfl) ?_
   refine wy hc8 rfl (ov_eql rfl rfl rfl) ?_
   refine V rfl (ov_pick_true rfl (guard_eq rfl hc8) rfl) ?_
   exact WL.nil ⟨Sub.cons' rfl (congrArg Value.bool (andT hc8)) (Sub.dropn 4 rfl), fun _ s => s⟩
  refine Vi rfl (Idle.no rfl rfl rfl hc8) (Vi rfl (Idle.no rfl rfl rfl hc8) (Vi rfl (Idle.no rfl rfl rfl hc8) (V rfl (ov_pick_false rfl (guard_eq rfl hc8) rfl) ?_)))
  exact WL.nil ⟨Sub.cons' rfl (congrArg Value.bool (andF hc8)) (Sub.dropn 4 rfl), fun _ s => s⟩
 refine Va rfl (WL.nil (tn (WP.ret ?_)))
 obtain rfl := Option.some.inj hm
 refine retQ_ret results4 (Res.tmp rfl Res.nil) rfl (fun w' s => ⟨s.below, ?_⟩)
 exact rfl
end Go.Proofs.YtbckcjjffbgidaaGreatDoor.W
