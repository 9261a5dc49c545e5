/- The walks. Written by our own program gen.py; Lean checks it. -/
import Derived.Test.YtbhcojijafbdiaaGreatDoorPlain
import Derived.Test.YtbhcojijafbdiaaGreatDoorEqs
import Derived.Test.YtbhcojijafbdiaaGreatDoorProg
import Derived.Test.YtbhcojijafbdiaaGreatDoorExt
import Derived.Test.YtbhcojijafbdiaaGreatDoorClone
import Derived.Test.YtbhcojijafbdiaaGreatDoorCloneS
import Derived.Test.YtbhcojijafbdiaaGreatDoorWalk0
import Derived.Test.YtbhcojijafbdiaaGreatDoorWalk5
import Derived.Test.YtbhcojijafbdiaaGreatDoorWalk6
import Derived.Test.YtbhcojijafbdiaaGreatDoorWalk7
import Derived.Test.YtbhcojijafbdiaaGreatDoorWalk8
import Derived.Test.YtbhcojijafbdiaaGreatDoorWalk9
set_option linter.unusedVariables false
set_option maxRecDepth 100000
set_option maxHeartbeats 4000000
namespace Go.Proofs.YtbhcojijafbdiaaGreatDoor.W
open Go Go.RowKit
theorem law14_SequenceChecks_con (p_s : Sequence) (p_t : Sequence) (ao1 : Option Addr) (cap1 : Nat) (ao2 : Option Addr) (cap2 : Nat) (w : World) (H : Heap) (hH : Le H (hp w)) (h1 : SL H encStep ao1 p_s.steps) (hc1 : p_s.steps.length ≤ cap1) (h2 : SL H encStep ao2 p_t.steps) (hc2 : p_t.steps.length ≤ cap2) (hG : Glob H) (r : Bool) (hm : law14_SequenceChecks p_s p_t = some r) :
  Con Tryz.prog 6 [(.agg #[(.int .i64 p_s.actuators), (.slice ao1 p_s.steps.length cap1)]), (.agg #[(.int .i64 p_t.actuators), (.slice ao2 p_t.steps.length cap2)])] w H (fun v _ => v = (.bool r)) := by
 unfold law14_SequenceChecks at hm
 refine con_of hH Tryz.func6 rfl 84 Tryz.ntmps6 rfl ?_
 refine WP.seq (WP.region ?_)
 refine WL.step (Runs.free rfl) rfl rfl (os_box (cs := [(.int .i64 p_s.actuators), (.slice ao1 p_s.steps.length cap1)]) rfl rfl rfl (fun b1 => ?_))
 refine WL.step (Runs.free rfl) rfl rfl (os_box (cs := [(.int .i64 p_t.actuators), (.slice ao2 p_t.steps.length cap2)]) rfl rfl rfl (fun b2 => ?_))
 refine wq rfl rfl rfl (ov_assign rfl rfl) ?_
 refine WL.nil (then_normal (WP.seq (WP.seq (WP.region ?_))))
 refine wq rfl rfl rfl (ov_load_whole (i := 1) Tryz.isAgg24 Tryz.sizeOf24 rfl rfl rfl rfl) ?_
 obtain ⟨r1, e1, hm⟩ := bind_some hm
 refine WL.quiet (Runs.free rfl) rfl rfl (oq_con (r := (.bool r1)) Tryz.call11 rfl rfl (fun w' s => ⟨_, (ref14_Few_con p_s ao1 cap1  w' H s.hold h1 hc1 hG r1 e1)⟩)) ?_
 refine wq rfl rfl rfl (ov_not rfl rfl) ?_
 refine wq rfl rfl rfl (ov_move rfl rfl) ?_
 obtain ⟨c1, e2, hm⟩ := bind_some hm
 refine WL.cut_bool 4 20 (x := c1) ?_ ?_
 ·
  rcases Bool.eq_false_or_eq_true (!r1) with hc3 | hc3
  ·
   skip
   replace hm := ite_t hc3 e2
   refine WL.idle (Idle.no rfl rfl rfl hc3) rfl rfl ?_
   refine WL.idle (Idle.no rfl rfl rfl hc3) rfl rfl ?_
   refine WL.idle (Idle.no rfl rfl rfl hc3) rfl rfl ?_
   refine wq rfl rfl rfl (ov_pick_true rfl (guard_eq rfl hc3) rfl) ?_
   exact WL.nil ⟨Sub.cons' rfl (congrArg Value.bool (Option.some.inj hm)) (Sub.skip rfl (Sub.skip rfl (Sub.skip rfl (Sub.skip rfl (Sub.refl _))))), fun _ s => s⟩
  ·
   skip
   replace hm := ite_f hc3 e2
   refine WL.quiet (Runs.yes rfl rfl rfl hc3) rfl rfl (OV.quiet (ov_load_whole (i := 0) Tryz.isAgg24 Tryz.sizeOf24 rfl rfl rfl rfl)) ?_
   obtain ⟨r2, e3, hm⟩ := bind_some hm
   refine WL.quiet (Runs.yes rfl rfl rfl hc3) rfl rfl (oq_con (r := (.bool r2)) Tryz.call11 rfl rfl (fun w' s => ⟨_, (ref14_Few_con p_t ao2 cap2  w' H s.hold h2 hc2 hG r2 e3)⟩)) ?_
   refine WL.quiet (Runs.yes rfl rfl rfl hc3) rfl rfl (OV.quiet (ov_not rfl rfl)) ?_
   refine wq rfl rfl rfl (ov_pick_false rfl (guard_eq rfl hc3) rfl) ?_
   exact WL.nil ⟨Sub.cons' rfl (congrArg Value.bool (Option.some.inj hm)) (Sub.skip rfl (Sub.skip rfl (Sub.skip rfl (Sub.skip rfl (Sub.refl _))))), fun _ s => s⟩
 refine WL.nil (then_normal ?_)
 refine WP.cond rfl (fun hc4 => ?_) (fun hc4 => ?_)
 ·
  replace hm := ite_t hc4 hm
  refine WP.seq (WP.region ?_)
  obtain ⟨r3, e4, hm⟩ := bind_some hm
  refine WL.quiet (Runs.free rfl) rfl rfl (oq_con (r := (.bool r3)) Tryz.call12 rfl rfl (fun w' s => ⟨_, (law14_awake_con   w' H s.hold hG r3 e4)⟩)) ?_
  refine wq rfl rfl rfl (ov_assign rfl rfl) ?_
  refine WL.nil (then_normal (WP.ret (then_ret ?_)))
  obtain rfl := Option.some.inj hm
  refine retQ_ret Tryz.results6 (Res.tmp rfl Res.nil) rfl (fun w' s => ⟨s.below, ?_⟩)
  exact rfl
 ·
  replace hm := ite_f hc4 hm
  refine WP.skip (then_normal (WP.seq (WP.region ?_)))
  refine wq rfl rfl rfl (ov_load_whole (i := 1) Tryz.isAgg24 Tryz.sizeOf24 rfl rfl rfl rfl) ?_
  obtain ⟨r4, e5, hm⟩ := bind_some hm
  refine WL.step (Runs.free rfl) rfl rfl (os_con Tryz.call16 rfl rfl (fun w' s => (sequence_Word_con p_s ao1 cap1  w' H s.hold h1 hc1 hG r4 e5)) (fun rr1 H1 hle1 hR1 => ?_))
  replace h1 := h1.mono hle1
  replace h2 := h2.mono hle1
  replace hG := hG.mono hle1
  obtain ⟨ao3, cap3, rfl, h3, hc5⟩ := hR1
  refine wq rfl rfl rfl (ov_move rfl rfl) ?_
  refine wq rfl rfl rfl (ov_extract rfl rfl rfl) ?_
  refine wq rfl rfl rfl (ov_extract rfl rfl rfl) ?_
  refine wq rfl rfl rfl (ov_assign rfl rfl) ?_
  refine wq rfl rfl rfl (ov_assign rfl rfl) ?_
  refine WL.nil (then_normal (WP.seq (WP.region ?_)))
  refine wq rfl rfl rfl (ov_load_whole (i := 1) Tryz.isAgg24 Tryz.sizeOf24 rfl rfl rfl rfl) ?_
  obtain ⟨r5, e6, hm⟩ := bind_some hm
  refine WL.step (Runs.free rfl) rfl rfl (os_con Tryz.call27 rfl rfl (fun w' s => (ref14_Word_con p_s ao1 cap1  w' H1 s.hold h1 hc1 hG r5 e6)) (fun rr2 H2 hle2 hR2 => ?_))
  replace h1 := h1.mono hle2
  replace h2 := h2.mono hle2
  replace h3 := h3.mono hle2
  replace hG := hG.mono hle2
  obtain ⟨ao4, cap4, rfl, h4, hc6⟩ := hR2
  refine wq rfl rfl rfl (ov_move rfl rfl) ?_
  refine wq rfl rfl rfl (ov_extract rfl rfl rfl) ?_
  refine wq rfl rfl rfl (ov_extract rfl rfl rfl) ?_
  refine wq rfl rfl rfl (ov_assign rfl rfl) ?_
  refine wq rfl rfl rfl (ov_assign rfl rfl) ?_
  refine WL.nil (then_normal (WP.seq (WP.region ?_)))
  refine wq rfl rfl rfl (ov_load_whole (i := 1) Tryz.isAgg24 Tryz.sizeOf24 rfl rfl rfl rfl) ?_
  obtain ⟨r6, e7, hm⟩ := bind_some hm
  refine WL.quiet (Runs.free rfl) rfl rfl (oq_con (r := (.tuple #[(.int .i64 r6.1), (.int .i64 r6.2)])) Tryz.call28 rfl rfl (fun w' s => ⟨_, (sequence_Words_con p_s ao1 cap1  w' H2 s.hold h1 hc1 hG r6 e7)⟩)) ?_
  refine wq rfl rfl rfl (ov_move rfl rfl) ?_
  refine wq rfl rfl rfl (ov_extract rfl rfl rfl) ?_
  refine wq rfl rfl rfl (ov_extract rfl rfl rfl) ?_
  refine wq rfl rfl rfl (ov_assign rfl rfl) ?_
  refine wq rfl rfl rfl (ov_assign rfl rfl) ?_
  refine WL.nil (then_normal (WP.seq (WP.region ?_)))
  refine wq rfl rfl rfl (ov_load_whole (i := 1) Tryz.isAgg24 Tryz.sizeOf24 rfl rfl rfl rfl) ?_
  obtain ⟨r7, e8, hm⟩ := bind_some hm
  refine WL.quiet (Runs.free rfl) rfl rfl (oq_con (r := (.tuple #[(.int .i64 r7.1), (.int .i64 r7.2)])) Tryz.call29 rfl rfl (fun w' s => ⟨_, (ref14_Words_con p_s ao1 cap1  w' H2 s.hold h1 hc1 hG r7 e8)⟩)) ?_
  refine wq rfl rfl rfl (ov_move rfl rfl) ?_
  refine wq rfl rfl rfl (ov_extract rfl rfl rfl) ?_
  refine wq rfl rfl rfl (ov_extract rfl rfl rfl) ?_
  refine wq rfl rfl rfl (ov_assign rfl rfl) ?_
  refine wq rfl rfl rfl (ov_assign rfl rfl) ?_
  refine WL.nil (then_normal (WP.seq ?_))
  refine WP.region_draws (by kernel_rfl) (by kernel_rfl) (fun _ s => s.drew) ?_
  refine QL.quiet (Runs.free rfl) rfl rfl (OV.quiet (ov_load_whole (i := 1) Tryz.isAgg24 Tryz.sizeOf24 rfl rfl rfl rfl)) ?_
  obtain ⟨r8, e9, hm⟩ := bind_some hm
  refine QL.quiet (Runs.free rfl) rfl rfl (oq_con (r := (.int .i64 r8)) Tryz.call30 rfl rfl (fun w' s => ⟨_, (sequence_Check_con p_s ao1 cap1  w' H2 s.hold h1 hc1 hG r8 e9)⟩)) ?_
  refine QL.quiet (Runs.free rfl) rfl rfl (OV.quiet (ov_load_whole (i := 1) Tryz.isAgg24 Tryz.sizeOf24 rfl rfl rfl rfl)) ?_
  obtain ⟨r9, e10, hm⟩ := bind_some hm
  refine QL.quiet (Runs.free rfl) rfl rfl (oq_con (r := (.int .i64 r9)) Tryz.call31 rfl rfl (fun w' s => ⟨_, (ref14_Check_con p_s ao1 cap1  w' H2 s.hold h1 hc1 hG r9 e10)⟩)) ?_
  refine QL.quiet (Runs.free rfl) rfl rfl (OV.quiet (ov_eql rfl rfl rfl)) ?_
  refine QL.quiet (Runs.free rfl) rfl rfl (OV.quiet (ov_move rfl rfl)) ?_
  obtain ⟨c2, e11, hm⟩ := bind_some hm
  refine QL.part_bool 4 51 (x := c2) ?_ ?_
  ·
   rcases Bool.eq_false_or_eq_true (r8 == r9) with hc7 | hc7
   ·
    skip
    replace hm := ite_t hc7 e11
    refine QL.quiet (Runs.yes rfl rfl rfl hc7) rfl rfl (OV.quiet (ov_move rfl rfl)) ?_
    refine QL.quiet (Runs.yes rfl rfl rfl hc7) rfl rfl (OV.quiet (ov_move rfl rfl)) ?_
    obtain ⟨r10, e12, hm⟩ := bind_some hm
    refine QL.quiet (Runs.yes rfl rfl rfl hc7) rfl rfl (oq_con (r := (.bool r10)) Tryz.call32 rfl rfl (fun w' s => ⟨_, (slices_Equal_api_Strokeapi_Stroke_con r4.1 r5.1 ao3 cap3 ao4 cap4  w' H2 s.hold h3 hc5 h4 hc6 hG r10 e12)⟩)) ?_
    refine QL.quiet (Runs.free rfl) rfl rfl (OV.quiet (ov_pick_true rfl (guard_eq rfl hc7) rfl)) ?_
    exact QL.nil (Sub.cons' rfl (congrArg Value.bool (Option.some.inj hm)) (Sub.skip rfl (Sub.skip rfl (Sub.skip rfl (Sub.skip rfl (Sub.refl _))))))
   ·
    skip
    replace hm := ite_f hc7 e11
    refine QL.idle (Idle.no rfl rfl rfl hc7) rfl rfl ?_
    refine QL.idle (Idle.no rfl rfl rfl hc7) rfl rfl ?_
    refine QL.idle (Idle.no rfl rfl rfl hc7) rfl rfl ?_
    refine QL.quiet (Runs.free rfl) rfl rfl (OV.quiet (ov_pick_false rfl (guard_eq rfl hc7) rfl)) ?_
    exact QL.nil (Sub.cons' rfl (congrArg Value.bool (Option.some.inj hm)) (Sub.skip rfl (Sub.skip rfl (Sub.skip rfl (Sub.skip rfl (Sub.refl _))))))
  refine QL.quiet (Runs.free rfl) rfl rfl (OV.quiet (ov_move rfl rfl)) ?_
  refine QL.part_bool 4 56 (x := (c2 && (r4.2 == r5.2))) ?_ ?_
  ·
   rcases Bool.eq_false_or_eq_true c2 with hc8 | hc8
   ·
    skip
    refine QL.quiet (Runs.yes rfl rfl rfl hc8) rfl rfl (OV.quiet (ov_move rfl rfl)) ?_
    refine QL.quiet (Runs.yes rfl rfl rfl hc8) rfl rfl (OV.quiet (ov_move rfl rfl)) ?_
    refine QL.quiet (Runs.yes rfl rfl rfl hc8) rfl rfl (OV.quiet (ov_eql rfl rfl rfl)) ?_
    refine QL.quiet (Runs.free rfl) rfl rfl (OV.quiet (ov_pick_true rfl (guard_eq rfl hc8) rfl)) ?_
    exact QL.nil (Sub.cons' rfl (congrArg Value.bool (andT hc8)) (Sub.skip rfl (Sub.skip rfl (Sub.skip rfl (Sub.skip rfl (Sub.refl _))))))
   ·
    skip
    refine QL.idle (Idle.no rfl rfl rfl hc8) rfl rfl ?_
    refine QL.idle (Idle.no rfl rfl rfl hc8) rfl rfl ?_
    refine QL.idle (Idle.no rfl rfl rfl hc8) rfl rfl ?_
    refine QL.quiet (Runs.free rfl) rfl rfl (OV.quiet (ov_pick_false rfl (guard_eq rfl hc8) rfl)) ?_
    exact QL.nil (Sub.cons' rfl (congrArg Value.bool (andF hc8)) (Sub.skip rfl (Sub.skip rfl (Sub.skip rfl (Sub.skip rfl (Sub.refl _))))))
  refine QL.quiet (Runs.free rfl) rfl rfl (OV.quiet (ov_move rfl rfl)) ?_
  refine QL.part_bool 4 61 (x := ((c2 && (r4.2 == r5.2)) && (r6.1 == r7.1))) ?_ ?_
  ·
   rcases Bool.eq_false_or_eq_true (c2 && (r4.2 == r5.2)) with hc9 | hc9
   ·
    skip
    refine QL.quiet (Runs.yes rfl rfl rfl hc9) rfl rfl (OV.quiet (ov_move rfl rfl)) ?_
    refine QL.quiet (Runs.yes rfl rfl rfl hc9) rfl rfl (OV.quiet (ov_move rfl rfl)) ?_
    refine QL.quiet (Runs.yes rfl rfl rfl hc9) rfl rfl (OV.quiet (ov_eql rfl rfl rfl)) ?_
    refine QL.quiet (Runs.free rfl) rfl rfl (OV.quiet (ov_pick_true rfl (guard_eq rfl hc9) rfl)) ?_
    exact QL.nil (Sub.cons' rfl (congrArg Value.bool (andT hc9)) (Sub.skip rfl (Sub.skip rfl (Sub.skip rfl (Sub.skip rfl (Sub.refl _))))))
   ·
    skip
    refine QL.idle (Idle.no rfl rfl rfl hc9) rfl rfl ?_
    refine QL.idle (Idle.no rfl rfl rfl hc9) rfl rfl ?_
    refine QL.idle (Idle.no rfl rfl rfl hc9) rfl rfl ?_
    refine QL.quiet (Runs.free rfl) rfl rfl (OV.quiet (ov_pick_false rfl (guard_eq rfl hc9) rfl)) ?_
    exact QL.nil (Sub.cons' rfl (congrArg Value.bool (andF hc9)) (Sub.skip rfl (Sub.skip rfl (Sub.skip rfl (Sub.skip rfl (Sub.refl _))))))
  refine QL.quiet (Runs.free rfl) rfl rfl (OV.quiet (ov_move rfl rfl)) ?_
  refine QL.part_bool 4 66 (x := (((c2 && (r4.2 == r5.2)) && (r6.1 == r7.1)) && (r6.2 == r7.2))) ?_ ?_
  ·
   rcases Bool.eq_false_or_eq_true ((c2 && (r4.2 == r5.2)) && (r6.1 == r7.1)) with hc10 | hc10
   ·
    skip
    refine QL.quiet (Runs.yes rfl rfl rfl hc10) rfl rfl (OV.quiet (ov_move rfl rfl)) ?_
    refine QL.quiet (Runs.yes rfl rfl rfl hc10) rfl rfl (OV.quiet (ov_move rfl rfl)) ?_
    refine QL.quiet (Runs.yes rfl rfl rfl hc10) rfl rfl (OV.quiet (ov_eql rfl rfl rfl)) ?_
    refine QL.quiet (Runs.free rfl) rfl rfl (OV.quiet (ov_pick_true rfl (guard_eq rfl hc10) rfl)) ?_
    exact QL.nil (Sub.cons' rfl (congrArg Value.bool (andT hc10)) (Sub.skip rfl (Sub.skip rfl (Sub.skip rfl (Sub.skip rfl (Sub.refl _))))))
   ·
    skip
    refine QL.idle (Idle.no rfl rfl rfl hc10) rfl rfl ?_
    refine QL.idle (Idle.no rfl rfl rfl hc10) rfl rfl ?_
    refine QL.idle (Idle.no rfl rfl rfl hc10) rfl rfl ?_
    refine QL.quiet (Runs.free rfl) rfl rfl (OV.quiet (ov_pick_false rfl (guard_eq rfl hc10) rfl)) ?_
    exact QL.nil (Sub.cons' rfl (congrArg Value.bool (andF hc10)) (Sub.skip rfl (Sub.skip rfl (Sub.skip rfl (Sub.skip rfl (Sub.refl _))))))
  refine QL.quiet (Runs.free rfl) rfl rfl (OV.quiet (ov_move rfl rfl)) ?_
  obtain ⟨c3, e13, hm⟩ := bind_some hm
  refine QL.part_bool 8 75 (x := c3) ?_ ?_
  ·
   rcases Bool.eq_false_or_eq_true (((c2 && (r4.2 == r5.2)) && (r6.1 == r7.1)) && (r6.2 == r7.2)) with hc11 | hc11
   ·
    skip
    replace hm := ite_t hc11 e13
    refine QL.quiet (Runs.yes rfl rfl rfl hc11) rfl rfl (OV.quiet (ov_load_whole (i := 1) Tryz.isAgg24 Tryz.sizeOf24 rfl rfl rfl rfl)) ?_
    refine QL.quiet (Runs.yes rfl rfl rfl hc11) rfl rfl (OV.quiet (ov_load_whole (i := 0) Tryz.isAgg24 Tryz.sizeOf24 rfl rfl rfl rfl)) ?_
    obtain ⟨r11, e14, hm⟩ := bind_some hm
    refine QL.quiet (Runs.yes rfl rfl rfl hc11) rfl rfl (oq_con (r := (.bool r11)) Tryz.call33 rfl rfl (fun w' s => ⟨_, (sequence_Same_con p_s p_t ao1 cap1 ao2 cap2  w' H2 s.hold h1 hc1 h2 hc2 hG r11 e14)⟩)) ?_
    refine QL.quiet (Runs.yes rfl rfl rfl hc11) rfl rfl (OV.quiet (ov_load_whole (i := 1) Tryz.isAgg24 Tryz.sizeOf24 rfl rfl rfl rfl)) ?_
    refine QL.quiet (Runs.yes rfl rfl rfl hc11) rfl rfl (OV.quiet (ov_load_whole (i := 0) Tryz.isAgg24 Tryz.sizeOf24 rfl rfl rfl rfl)) ?_
    obtain ⟨r12, e15, hm⟩ := bind_some hm
    refine QL.quiet (Runs.yes rfl rfl rfl hc11) rfl rfl (oq_con (r := (.bool r12)) Tryz.call34 rfl rfl (fun w' s => ⟨_, (ref14_Same_con p_s p_t ao1 cap1 ao2 cap2  w' H2 s.hold h1 hc1 h2 hc2 hG r12 e15)⟩)) ?_
    refine QL.quiet (Runs.yes rfl rfl rfl hc11) rfl rfl (OV.quiet (ov_beql Tryz.underlying4 rfl rfl rfl)) ?_
    refine QL.quiet (Runs.free rfl) rfl rfl (OV.quiet (ov_pick_true rfl (guard_eq rfl hc11) rfl)) ?_
    exact QL.nil (Sub.cons' rfl (congrArg Value.bool (Option.some.inj hm)) (Sub.skip rfl (Sub.skip rfl (Sub.skip rfl (Sub.skip rfl (Sub.skip rfl (Sub.skip rfl (Sub.skip rfl (Sub.skip rfl (Sub.refl _))))))))))
   ·
    skip
    replace hm := ite_f hc11 e13
    refine QL.idle (Idle.no rfl rfl rfl hc11) rfl rfl ?_
    refine QL.idle (Idle.no rfl rfl rfl hc11) rfl rfl ?_
    refine QL.idle (Idle.no rfl rfl rfl hc11) rfl rfl ?_
    refine QL.idle (Idle.no rfl rfl rfl hc11) rfl rfl ?_
    refine QL.idle (Idle.no rfl rfl rfl hc11) rfl rfl ?_
    refine QL.idle (Idle.no rfl rfl rfl hc11) rfl rfl ?_
    refine QL.idle (Idle.no rfl rfl rfl hc11) rfl rfl ?_
    refine QL.quiet (Runs.free rfl) rfl rfl (OV.quiet (ov_pick_false rfl (guard_eq rfl hc11) rfl)) ?_
    exact QL.nil (Sub.cons' rfl (congrArg Value.bool (Option.some.inj hm)) (Sub.skip rfl (Sub.skip rfl (Sub.skip rfl (Sub.skip rfl (Sub.skip rfl (Sub.skip rfl (Sub.skip rfl (Sub.skip rfl (Sub.refl _))))))))))
  refine QL.quiet (Runs.free rfl) rfl rfl (OV.quiet (ov_move rfl rfl)) ?_
  obtain ⟨c4, e16, hm⟩ := bind_some hm
  refine QL.part_bool 4 80 (x := c4) ?_ ?_
  ·
   rcases Bool.eq_false_or_eq_true c3 with hc12 | hc12
   ·
    skip
    replace hm := ite_t hc12 e16
    refine QL.quiet (Runs.yes rfl rfl rfl hc12) rfl rfl (OV.quiet (ov_load_whole (i := 1) Tryz.isAgg24 Tryz.sizeOf24 rfl rfl rfl rfl)) ?_
    refine QL.quiet (Runs.yes rfl rfl rfl hc12) rfl rfl (OV.quiet (ov_load_whole (i := 1) Tryz.isAgg24 Tryz.sizeOf24 rfl rfl rfl rfl)) ?_
    obtain ⟨r13, e17, hm⟩ := bind_some hm
    refine QL.quiet (Runs.yes rfl rfl rfl hc12) rfl rfl (oq_con (r := (.bool r13)) Tryz.call33 rfl rfl (fun w' s => ⟨_, (sequence_Same_con p_s p_s ao1 cap1 ao1 cap1  w' H2 s.hold h1 hc1 h1 hc1 hG r13 e17)⟩)) ?_
    refine QL.quiet (Runs.free rfl) rfl rfl (OV.quiet (ov_pick_true rfl (guard_eq rfl hc12) rfl)) ?_
    exact QL.nil (Sub.cons' rfl (congrArg Value.bool (Option.some.inj hm)) (Sub.skip rfl (Sub.skip rfl (Sub.skip rfl (Sub.skip rfl (Sub.refl _))))))
   ·
    skip
    replace hm := ite_f hc12 e16
    refine QL.idle (Idle.no rfl rfl rfl hc12) rfl rfl ?_
    refine QL.idle (Idle.no rfl rfl rfl hc12) rfl rfl ?_
    refine QL.idle (Idle.no rfl rfl rfl hc12) rfl rfl ?_
    refine QL.quiet (Runs.free rfl) rfl rfl (OV.quiet (ov_pick_false rfl (guard_eq rfl hc12) rfl)) ?_
    exact QL.nil (Sub.cons' rfl (congrArg Value.bool (Option.some.inj hm)) (Sub.skip rfl (Sub.skip rfl (Sub.skip rfl (Sub.skip rfl (Sub.refl _))))))
  refine QL.quiet (Runs.free rfl) rfl rfl (OV.quiet (ov_move rfl rfl)) ?_
  obtain ⟨c5, e18, hm⟩ := bind_some hm
  refine QL.part_bool 2 83 (x := c5) ?_ ?_
  ·
   rcases Bool.eq_false_or_eq_true c4 with hc13 | hc13
   ·
    skip
    replace hm := ite_t hc13 e18
    obtain ⟨r14, e19, hm⟩ := bind_some hm
    refine QL.quiet (Runs.yes rfl rfl rfl hc13) rfl rfl (oq_con (r := (.bool r14)) Tryz.call12 rfl rfl (fun w' s => ⟨_, (law14_awake_con   w' H2 s.hold hG r14 e19)⟩)) ?_
    refine QL.quiet (Runs.free rfl) rfl rfl (OV.quiet (ov_pick_true rfl (guard_eq rfl hc13) rfl)) ?_
    exact QL.nil (Sub.cons' rfl (congrArg Value.bool (Option.some.inj hm)) (Sub.skip rfl (Sub.skip rfl (Sub.refl _))))
   ·
    skip
    replace hm := ite_f hc13 e18
    refine QL.idle (Idle.no rfl rfl rfl hc13) rfl rfl ?_
    refine QL.quiet (Runs.free rfl) rfl rfl (OV.quiet (ov_pick_false rfl (guard_eq rfl hc13) rfl)) ?_
    exact QL.nil (Sub.cons' rfl (congrArg Value.bool (Option.some.inj hm)) (Sub.skip rfl (Sub.skip rfl (Sub.refl _))))
  refine QL.quiet (Runs.free rfl) rfl rfl (OV.quiet (ov_assign rfl rfl)) ?_
  refine QL.nil ?_
  refine then_normal (WP.ret ?_)
  obtain rfl := Option.some.inj hm
  refine retQ_ret Tryz.results6 (Res.tmp rfl Res.nil) rfl (fun w' s => ⟨s.below, ?_⟩)
  exact rfl

end Go.Proofs.YtbhcojijafbdiaaGreatDoor.W
