/- The walks. Written by our own program gen.py; Lean checks it. -/
import Derived.Test.YtbckcjjffbgidaaGreatDoorPlain
import Derived.Test.YtbckcjjffbgidaaGreatDoorEqs
import Derived.Test.YtbckcjjffbgidaaGreatDoorProg
import Derived.Test.YtbckcjjffbgidaaGreatDoorExt
import Derived.Test.YtbckcjjffbgidaaGreatDoorBuild
import Derived.Test.YtbckcjjffbgidaaGreatDoorClone
import Derived.Test.YtbckcjjffbgidaaGreatDoorWalk8
import Derived.Test.YtbckcjjffbgidaaGreatDoorWalk10
import Derived.Test.YtbckcjjffbgidaaGreatDoorWalk11
import Derived.Test.YtbckcjjffbgidaaGreatDoorWalk17
import Derived.Test.YtbckcjjffbgidaaGreatDoorWalk25
set_option linter.unusedVariables false
set_option maxRecDepth 100000
set_option maxHeartbeats 4000000
namespace Go.Proofs.YtbckcjjffbgidaaGreatDoor.W
open Go Go.RowKit Go.Proofs.Tryz
theorem law16_DiagramScales_con (p_s : Sequence) (p_times : (List Int)) (p_unit : Int) (ao1 : Option Addr) (cap1 : Nat) (ao2 : Option Addr) (cap2 : Nat) (w : World) (H : Heap) (hH : Le H (hp w)) (h1 : SL H encStep ao1 p_s.steps) (hc1 : p_s.steps.length ≤ cap1) (h2 : SL H (encInt .i64) ao2 p_times) (hc2 : p_times.length ≤ cap2) (hG : Glob H) (r : Bool) (hm : law16_DiagramScales p_s p_times p_unit = some r) :
  Con prog 8 [(.agg #[(.int .i64 p_s.actuators), (.slice ao1 p_s.steps.length cap1)]), (.slice ao2 p_times.length cap2), (.int .i64 p_unit)] w H (fun v _ => v = (.bool r)) := by
 unfold law16_DiagramScales at hm
 refine con_of hH func8 rfl 51 ntmps8 rfl ?_
 refine WP.seq (WP.region ?_)
 refine ws rfl (os_box (cs := [(.int .i64 p_s.actuators), (.slice ao1 p_s.steps.length cap1)]) rfl rfl rfl (fun b1 => ?_))
 refine Va rfl (WL.nil (tn (WP.seq (WP.seq (WP.region (V rfl (ov_load_whole (i := 0) isAgg24 sizeOf24 rfl rfl rfl rfl) ?_))))))
 obtain ⟨r1, e1, hm⟩ := bind_some hm
 refine wo rfl (oq_con (r := (.bool r1)) call11 rfl rfl (fun w' s => ⟨_, (law16_few_con p_s ao1 cap1  w' H s.hold h1 hc1 hG r1 e1)⟩)) ?_
 refine V rfl (ov_not rfl rfl) (Vm rfl ?_)
 refine WL.cut_bool 4 18 (x := ((!r1) || (decide ((p_times.length : Int) > 100)))) ?_ ?_
 ·
  rcases Bool.eq_false_or_eq_true (!r1) with hc3 | hc3
  ·
   refine Vi rfl (Idle.no rfl rfl rfl hc3) (Vi rfl (Idle.no rfl rfl rfl hc3) (Vi rfl (Idle.no rfl rfl rfl hc3) (V rfl (ov_pick_true rfl (guard_eq rfl hc3) rfl) ?_)))
   exact WL.nil ⟨Sub.cons' rfl (congrArg Value.bool (orT hc3)) (Sub.dropn 4 rfl), fun _ s => s⟩
  refine wy hc3 rfl (ov_move rfl rfl) ?_
  refine wy hc3 rfl (ov_len_slice underlying39 rfl rfl) ?_
  refine wy hc3 rfl (ov_gtr rfl rfl rfl) ?_
  refine V rfl (ov_pick_false rfl (guard_eq rfl hc3) rfl) ?_
  exact WL.nil ⟨Sub.cons' rfl (congrArg Value.bool (orF hc3)) (Sub.dropn 4 rfl), fun _ s => s⟩
 refine Vm rfl ?_
 obtain ⟨c1, e2, hm⟩ := bind_some hm
 refine WL.cut_bool 5 24 (x := c1) ?_ ?_
 ·
  rcases Bool.eq_false_or_eq_true ((!r1) || (decide ((p_times.length : Int) > 100))) with hc4 | hc4
  ·
   replace hm := ite_t hc4 e2
   refine Vi rfl (Idle.no rfl rfl rfl hc4) (Vi rfl (Idle.no rfl rfl rfl hc4) (Vi rfl (Idle.no rfl rfl rfl hc4) (Vi rfl (Idle.no rfl rfl rfl hc4) (V rfl (ov_pick_true rfl (guard_eq rfl hc4) rfl) ?_))))
   exact WL.nil ⟨Sub.cons' rfl (congrArg Value.bool (Option.some.inj hm)) (Sub.dropn 5 rfl), fun _ s => s⟩
  replace hm := ite_f hc4 e2
  refine wy hc4 rfl (ov_move rfl rfl) ?_
  refine wy hc4 rfl (ov_move rfl rfl) ?_
  obtain ⟨r2, e3, hm⟩ := bind_some hm
  refine WL.quiet (Runs.yes rfl rfl rfl hc4) rfl rfl (oq_con (r := (.bool r2)) call26 rfl rfl (fun w' s => ⟨_, (law16_short_con p_times p_unit ao2 cap2  w' H s.hold h2 hc2 hG r2 e3)⟩)) ?_
  refine wy hc4 rfl (ov_not rfl rfl) ?_
  refine V rfl (ov_pick_false rfl (guard_eq rfl hc4) rfl) ?_
  exact WL.nil ⟨Sub.cons' rfl (congrArg Value.bool (Option.some.inj hm)) (Sub.dropn 5 rfl), fun _ s => s⟩
 refine WL.nil (tn ?_)
 refine WP.cond rfl (fun hc5 => ?_) (fun hc5 => ?_)
 ·
  replace hm := ite_t hc5 hm
  refine WP.seq (WP.region ?_)
  obtain ⟨r3, e4, hm⟩ := bind_some hm
  refine wo rfl (oq_con (r := (.bool r3)) call12 rfl rfl (fun w' s => ⟨_, (law16_awake_con   w' H s.hold hG r3 e4)⟩)) ?_
  refine Va rfl (WL.nil (tn (WP.ret (then_ret ?_))))
  obtain rfl := Option.some.inj hm
  refine retQ_ret results8 (Res.tmp rfl Res.nil) rfl (fun w' s => ⟨s.below, ?_⟩)
  exact rfl
 replace hm := ite_f hc5 hm
 refine WP.skip (tn (WP.seq (WP.region (V rfl (ov_load_whole (i := 0) isAgg24 sizeOf24 rfl rfl rfl rfl) (Vm rfl (Vm rfl ?_))))))
 obtain ⟨r4, e5, hm⟩ := bind_some hm
 refine ws rfl (os_con call27 rfl rfl (fun w' s => (diagram_Scale_con p_s p_times p_unit ao1 cap1 ao2 cap2  w' H s.hold h1 hc1 h2 hc2 hG r4 e5)) (fun rr1 H1 hle1 hR1 => ?_))
 replace h1 := h1.mono hle1
 replace h2 := h2.mono hle1
 replace hG := hG.mono hle1
 obtain ⟨ao3, cap3, rfl, h3, hc6⟩ := hR1
 refine Vm rfl (Ve rfl (Ve rfl (Va rfl (Va rfl (WL.nil (tn (WP.seq (WP.region (V rfl (ov_load_whole (i := 0) isAgg24 sizeOf24 rfl rfl rfl rfl) (Vm rfl (Vm rfl ?_)))))))))))
 obtain ⟨r5, e6, hm⟩ := bind_some hm
 refine ws rfl (os_con call28 rfl rfl (fun w' s => (ref16_Scale_con p_s p_times p_unit ao1 cap1 ao2 cap2  w' H1 s.hold h1 hc1 h2 hc2 hG r5 e6)) (fun rr2 H2 hle2 hR2 => ?_))
 replace h3 := h3.mono hle2
 replace hG := hG.mono hle2
 obtain ⟨ao4, cap4, rfl, h4, hc7⟩ := hR2
 refine Vm rfl (Ve rfl (Ve rfl (Va rfl (Va rfl (WL.nil (tn (WP.seq (WP.region ?_))))))))
 obtain ⟨r6, e7, hm⟩ := bind_some hm
 refine wo rfl (oq_con (r := (.bool r6)) call12 rfl rfl (fun w' s => ⟨_, (law16_awake_con   w' H2 s.hold hG r6 e7)⟩)) ?_
 refine Vm rfl ?_
 obtain ⟨c2, e8, hm⟩ := bind_some hm
 refine WL.cut_bool 4 45 (x := c2) ?_ ?_
 ·
  rcases Bool.eq_false_or_eq_true r6 with hc8 | hc8
  ·
   replace hm := ite_t hc8 e8
   refine wy hc8 rfl (ov_move rfl rfl) ?_
   refine wy hc8 rfl (ov_move rfl rfl) ?_
   obtain ⟨r7, e9, hm⟩ := bind_some hm
   refine WL.quiet (Runs.yes rfl rfl rfl hc8) rfl rfl (oq_con (r := (.bool r7)) call19 rfl rfl (fun w' s => ⟨_, (slices_Equal_stringstring_con r4.1 r5.1 ao3 cap3 ao4 cap4  w' H2 s.hold h3 hc6 h4 hc7 hG r7 e9)⟩)) ?_
   refine V rfl (ov_pick_true rfl (guard_eq rfl hc8) rfl) ?_
   exact WL.nil ⟨Sub.cons' rfl (congrArg Value.bool (Option.some.inj hm)) (Sub.dropn 4 rfl), fun _ s => s⟩
  replace hm := ite_f hc8 e8
  refine Vi rfl (Idle.no rfl rfl rfl hc8) (Vi rfl (Idle.no rfl rfl rfl hc8) (Vi rfl (Idle.no rfl rfl rfl hc8) (V rfl (ov_pick_false rfl (guard_eq rfl hc8) rfl) ?_)))
  exact WL.nil ⟨Sub.cons' rfl (congrArg Value.bool (Option.some.inj hm)) (Sub.dropn 4 rfl), fun _ s => s⟩
 refine Vm rfl ?_
 refine WL.cut_bool 4 50 (x := (c2 && (r4.2 == r5.2))) ?_ ?_
 ·
  rcases Bool.eq_false_or_eq_true c2 with hc9 | hc9
  ·
   refine wy hc9 rfl (ov_move rfl rfl) ?_
   refine wy hc9 rfl (ov_move rfl rfl) ?_
   refine wy hc9 rfl (ov_eql rfl rfl rfl) ?_
   refine V rfl (ov_pick_true rfl (guard_eq rfl hc9) rfl) ?_
   exact WL.nil ⟨Sub.cons' rfl (congrArg Value.bool (andT hc9)) (Sub.dropn 4 rfl), fun _ s => s⟩
  refine Vi rfl (Idle.no rfl rfl rfl hc9) (Vi rfl (Idle.no rfl rfl rfl hc9) (Vi rfl (Idle.no rfl rfl rfl hc9) (V rfl (ov_pick_false rfl (guard_eq rfl hc9) rfl) ?_)))
  exact WL.nil ⟨Sub.cons' rfl (congrArg Value.bool (andF hc9)) (Sub.dropn 4 rfl), fun _ s => s⟩
 refine Va rfl (WL.nil (tn (WP.ret ?_)))
 obtain rfl := Option.some.inj hm
 refine retQ_ret results8 (Res.tmp rfl Res.nil) rfl (fun w' s => ⟨s.below, ?_⟩)
 exact rfl
end Go.Proofs.YtbckcjjffbgidaaGreatDoor.W
