/- The walks. Written by our own program gen.py; Lean checks it. -/
import Derived.Test.YtbhcojijafbdiaaGreatDoorPlain
import Derived.Test.YtbhcojijafbdiaaGreatDoorEqs
import Derived.Test.YtbhcojijafbdiaaGreatDoorProg
import Derived.Test.YtbhcojijafbdiaaGreatDoorExt
import Derived.Test.YtbhcojijafbdiaaGreatDoorClone
import Derived.Test.YtbhcojijafbdiaaGreatDoorCloneS
import Derived.Test.YtbhcojijafbdiaaGreatDoorWalk4
import Derived.Test.YtbhcojijafbdiaaGreatDoorWalk5
import Derived.Test.YtbhcojijafbdiaaGreatDoorWalk6
import Derived.Test.YtbhcojijafbdiaaGreatDoorWalk9
set_option linter.unusedVariables false
set_option maxRecDepth 100000
set_option maxHeartbeats 4000000
namespace Go.Proofs.YtbhcojijafbdiaaGreatDoor.W
open Go Go.RowKit
theorem law14_SequenceEnds_con (p_s : Sequence) (p_k : Int) (ao1 : Option Addr) (cap1 : Nat) (w : World) (H : Heap) (hH : Le H (hp w)) (h1 : SL H encStep ao1 p_s.steps) (hc1 : p_s.steps.length ≤ cap1) (hG : Glob H) (r : Bool) (hm : law14_SequenceEnds p_s p_k = some r) :
  Con Tryz.prog 7 [(.agg #[(.int .i64 p_s.actuators), (.slice ao1 p_s.steps.length cap1)]), (.int .i64 p_k)] w H (fun v _ => v = (.bool r)) := by
 unfold law14_SequenceEnds at hm
 refine con_of hH Tryz.func7 rfl 82 Tryz.ntmps7 rfl ?_
 refine WP.seq (WP.region ?_)
 refine WL.step (Runs.free rfl) rfl rfl (os_box (cs := [(.int .i64 p_s.actuators), (.slice ao1 p_s.steps.length cap1)]) rfl rfl rfl (fun b1 => ?_))
 refine wq rfl rfl rfl (ov_assign rfl rfl) ?_
 refine WL.nil (then_normal (WP.seq (WP.seq (WP.region ?_))))
 refine wq rfl rfl rfl (ov_load_whole (i := 0) Tryz.isAgg24 Tryz.sizeOf24 rfl rfl rfl rfl) ?_
 obtain ⟨r1, e1, hm⟩ := bind_some hm
 refine WL.quiet (Runs.free rfl) rfl rfl (oq_con (r := (.bool r1)) Tryz.call11 rfl rfl (fun w' s => ⟨_, (ref14_Few_con p_s ao1 cap1  w' H s.hold h1 hc1 hG r1 e1)⟩)) ?_
 refine wq rfl rfl rfl (ov_not rfl rfl) ?_
 refine WL.nil (then_normal ?_)
 refine WP.cond rfl (fun hc2 => ?_) (fun hc2 => ?_)
 ·
  replace hm := ite_t hc2 hm
  refine WP.seq (WP.region ?_)
  obtain ⟨r2, e2, hm⟩ := bind_some hm
  refine WL.quiet (Runs.free rfl) rfl rfl (oq_con (r := (.bool r2)) Tryz.call12 rfl rfl (fun w' s => ⟨_, (law14_awake_con   w' H s.hold hG r2 e2)⟩)) ?_
  refine wq rfl rfl rfl (ov_assign rfl rfl) ?_
  refine WL.nil (then_normal (WP.ret (then_ret ?_)))
  obtain rfl := Option.some.inj hm
  refine retQ_ret Tryz.results7 (Res.tmp rfl Res.nil) rfl (fun w' s => ⟨s.below, ?_⟩)
  exact rfl
 ·
  replace hm := ite_f hc2 hm
  refine WP.skip (then_normal (WP.seq (WP.region ?_)))
  refine wq rfl rfl rfl (ov_load_whole (i := 0) Tryz.isAgg24 Tryz.sizeOf24 rfl rfl rfl rfl) ?_
  refine wq rfl rfl rfl (ov_move rfl rfl) ?_
  obtain ⟨r3, e3, hm⟩ := bind_some hm
  refine WL.step (Runs.free rfl) rfl rfl (os_con Tryz.call35 rfl rfl (fun w' s => (sequence_Ends_con p_s p_k ao1 cap1  w' H s.hold h1 hc1 hG r3 e3)) (fun rr1 H1 hle1 hR1 => ?_))
  replace h1 := h1.mono hle1
  replace hG := hG.mono hle1
  obtain ⟨ao2, cap2, rfl, h2, hc3⟩ := hR1
  refine wq rfl rfl rfl (ov_move rfl rfl) ?_
  refine wq rfl rfl rfl (ov_extract rfl rfl rfl) ?_
  refine wq rfl rfl rfl (ov_extract rfl rfl rfl) ?_
  refine wq rfl rfl rfl (ov_assign rfl rfl) ?_
  refine wq rfl rfl rfl (ov_assign rfl rfl) ?_
  refine WL.nil (then_normal (WP.seq (WP.region ?_)))
  refine wq rfl rfl rfl (ov_load_whole (i := 0) Tryz.isAgg24 Tryz.sizeOf24 rfl rfl rfl rfl) ?_
  refine wq rfl rfl rfl (ov_move rfl rfl) ?_
  obtain ⟨r4, e4, hm⟩ := bind_some hm
  refine WL.step (Runs.free rfl) rfl rfl (os_con Tryz.call36 rfl rfl (fun w' s => (ref14_Ends_con p_s p_k ao1 cap1  w' H1 s.hold h1 hc1 hG r4 e4)) (fun rr2 H2 hle2 hR2 => ?_))
  replace h1 := h1.mono hle2
  replace h2 := h2.mono hle2
  replace hG := hG.mono hle2
  obtain ⟨ao3, cap3, rfl, h3, hc4⟩ := hR2
  refine wq rfl rfl rfl (ov_move rfl rfl) ?_
  refine wq rfl rfl rfl (ov_extract rfl rfl rfl) ?_
  refine wq rfl rfl rfl (ov_extract rfl rfl rfl) ?_
  refine wq rfl rfl rfl (ov_assign rfl rfl) ?_
  refine wq rfl rfl rfl (ov_assign rfl rfl) ?_
  refine WL.nil (then_normal (WP.seq (WP.region ?_)))
  refine wq rfl rfl rfl (ov_load_whole (i := 0) Tryz.isAgg24 Tryz.sizeOf24 rfl rfl rfl rfl) ?_
  refine wq rfl rfl rfl (ov_move rfl rfl) ?_
  obtain ⟨r5, e5, hm⟩ := bind_some hm
  refine WL.step (Runs.free rfl) rfl rfl (os_con Tryz.call37 rfl rfl (fun w' s => (sequence_Moves_con p_s p_k ao1 cap1  w' H2 s.hold h1 hc1 hG r5 e5)) (fun rr3 H3 hle3 hR3 => ?_))
  replace h1 := h1.mono hle3
  replace h2 := h2.mono hle3
  replace h3 := h3.mono hle3
  replace hG := hG.mono hle3
  obtain ⟨ao4, cap4, rfl, h4, hc5⟩ := hR3
  refine wq rfl rfl rfl (ov_move rfl rfl) ?_
  refine wq rfl rfl rfl (ov_extract rfl rfl rfl) ?_
  refine wq rfl rfl rfl (ov_extract rfl rfl rfl) ?_
  refine wq rfl rfl rfl (ov_assign rfl rfl) ?_
  refine wq rfl rfl rfl (ov_assign rfl rfl) ?_
  refine WL.nil (then_normal (WP.seq (WP.region ?_)))
  refine wq rfl rfl rfl (ov_load_whole (i := 0) Tryz.isAgg24 Tryz.sizeOf24 rfl rfl rfl rfl) ?_
  refine wq rfl rfl rfl (ov_move rfl rfl) ?_
  obtain ⟨r6, e6, hm⟩ := bind_some hm
  refine WL.step (Runs.free rfl) rfl rfl (os_con Tryz.call38 rfl rfl (fun w' s => (ref14_Moves_con p_s p_k ao1 cap1  w' H3 s.hold h1 hc1 hG r6 e6)) (fun rr4 H4 hle4 hR4 => ?_))
  replace h1 := h1.mono hle4
  replace h2 := h2.mono hle4
  replace h3 := h3.mono hle4
  replace h4 := h4.mono hle4
  replace hG := hG.mono hle4
  obtain ⟨ao5, cap5, rfl, h5, hc6⟩ := hR4
  refine wq rfl rfl rfl (ov_move rfl rfl) ?_
  refine wq rfl rfl rfl (ov_extract rfl rfl rfl) ?_
  refine wq rfl rfl rfl (ov_extract rfl rfl rfl) ?_
  refine wq rfl rfl rfl (ov_assign rfl rfl) ?_
  refine wq rfl rfl rfl (ov_assign rfl rfl) ?_
  refine WL.nil (then_normal (WP.seq (WP.seq (WP.region ?_))))
  refine wq rfl rfl rfl (ov_move rfl rfl) ?_
  refine wq rfl rfl rfl (ov_move rfl rfl) ?_
  obtain ⟨r7, e7, hm⟩ := bind_some hm
  refine WL.quiet (Runs.free rfl) rfl rfl (oq_con (r := (.bool r7)) Tryz.call39 rfl rfl (fun w' s => ⟨_, (slices_Equal_boolbool_con r3.1 r4.1 ao2 cap2 ao3 cap3  w' H4 s.hold h2 hc3 h3 hc4 hG r7 e7)⟩)) ?_
  refine wq rfl rfl rfl (ov_not rfl rfl) ?_
  refine wq rfl rfl rfl (ov_move rfl rfl) ?_
  refine WL.cut_bool 4 49 (x := ((!r7) || (r3.2 != r4.2))) ?_ ?_
  ·
   rcases Bool.eq_false_or_eq_true (!r7) with hc7 | hc7
   ·
    skip
    refine WL.idle (Idle.no rfl rfl rfl hc7) rfl rfl ?_
    refine WL.idle (Idle.no rfl rfl rfl hc7) rfl rfl ?_
    refine WL.idle (Idle.no rfl rfl rfl hc7) rfl rfl ?_
    refine wq rfl rfl rfl (ov_pick_true rfl (guard_eq rfl hc7) rfl) ?_
    exact WL.nil ⟨Sub.cons' rfl (congrArg Value.bool (orT hc7)) (Sub.skip rfl (Sub.skip rfl (Sub.skip rfl (Sub.skip rfl (Sub.refl _))))), fun _ s => s⟩
   ·
    skip
    refine WL.quiet (Runs.yes rfl rfl rfl hc7) rfl rfl (OV.quiet (ov_move rfl rfl)) ?_
    refine WL.quiet (Runs.yes rfl rfl rfl hc7) rfl rfl (OV.quiet (ov_move rfl rfl)) ?_
    refine WL.quiet (Runs.yes rfl rfl rfl hc7) rfl rfl (OV.quiet (ov_neq rfl rfl rfl)) ?_
    refine wq rfl rfl rfl (ov_pick_false rfl (guard_eq rfl hc7) rfl) ?_
    exact WL.nil ⟨Sub.cons' rfl (congrArg Value.bool (orF hc7)) (Sub.skip rfl (Sub.skip rfl (Sub.skip rfl (Sub.skip rfl (Sub.refl _))))), fun _ s => s⟩
  refine wq rfl rfl rfl (ov_move rfl rfl) ?_
  obtain ⟨c1, e8, hm⟩ := bind_some hm
  refine WL.cut_bool 5 55 (x := c1) ?_ ?_
  ·
   rcases Bool.eq_false_or_eq_true ((!r7) || (r3.2 != r4.2)) with hc8 | hc8
   ·
    skip
    replace hm := ite_t hc8 e8
    refine WL.idle (Idle.no rfl rfl rfl hc8) rfl rfl ?_
    refine WL.idle (Idle.no rfl rfl rfl hc8) rfl rfl ?_
    refine WL.idle (Idle.no rfl rfl rfl hc8) rfl rfl ?_
    refine WL.idle (Idle.no rfl rfl rfl hc8) rfl rfl ?_
    refine wq rfl rfl rfl (ov_pick_true rfl (guard_eq rfl hc8) rfl) ?_
    exact WL.nil ⟨Sub.cons' rfl (congrArg Value.bool (Option.some.inj hm)) (Sub.skip rfl (Sub.skip rfl (Sub.skip rfl (Sub.skip rfl (Sub.skip rfl (Sub.refl _)))))), fun _ s => s⟩
   ·
    skip
    replace hm := ite_f hc8 e8
    refine WL.quiet (Runs.yes rfl rfl rfl hc8) rfl rfl (OV.quiet (ov_move rfl rfl)) ?_
    refine WL.quiet (Runs.yes rfl rfl rfl hc8) rfl rfl (OV.quiet (ov_move rfl rfl)) ?_
    obtain ⟨r8, e9, hm⟩ := bind_some hm
    refine WL.quiet (Runs.yes rfl rfl rfl hc8) rfl rfl (oq_con (r := (.bool r8)) Tryz.call40 rfl rfl (fun w' s => ⟨_, (slices_Equal_intint_con r5.1 r6.1 ao4 cap4 ao5 cap5  w' H4 s.hold h4 hc5 h5 hc6 hG r8 e9)⟩)) ?_
    refine WL.quiet (Runs.yes rfl rfl rfl hc8) rfl rfl (OV.quiet (ov_not rfl rfl)) ?_
    refine wq rfl rfl rfl (ov_pick_false rfl (guard_eq rfl hc8) rfl) ?_
    exact WL.nil ⟨Sub.cons' rfl (congrArg Value.bool (Option.some.inj hm)) (Sub.skip rfl (Sub.skip rfl (Sub.skip rfl (Sub.skip rfl (Sub.skip rfl (Sub.refl _)))))), fun _ s => s⟩
  refine wq rfl rfl rfl (ov_move rfl rfl) ?_
  refine WL.cut_bool 4 60 (x := (c1 || (r5.2 != r6.2))) ?_ ?_
  ·
   rcases Bool.eq_false_or_eq_true c1 with hc9 | hc9
   ·
    skip
    refine WL.idle (Idle.no rfl rfl rfl hc9) rfl rfl ?_
    refine WL.idle (Idle.no rfl rfl rfl hc9) rfl rfl ?_
    refine WL.idle (Idle.no rfl rfl rfl hc9) rfl rfl ?_
    refine wq rfl rfl rfl (ov_pick_true rfl (guard_eq rfl hc9) rfl) ?_
    exact WL.nil ⟨Sub.cons' rfl (congrArg Value.bool (orT hc9)) (Sub.skip rfl (Sub.skip rfl (Sub.skip rfl (Sub.skip rfl (Sub.refl _))))), fun _ s => s⟩
   ·
    skip
    refine WL.quiet (Runs.yes rfl rfl rfl hc9) rfl rfl (OV.quiet (ov_move rfl rfl)) ?_
    refine WL.quiet (Runs.yes rfl rfl rfl hc9) rfl rfl (OV.quiet (ov_move rfl rfl)) ?_
    refine WL.quiet (Runs.yes rfl rfl rfl hc9) rfl rfl (OV.quiet (ov_neq rfl rfl rfl)) ?_
    refine wq rfl rfl rfl (ov_pick_false rfl (guard_eq rfl hc9) rfl) ?_
    exact WL.nil ⟨Sub.cons' rfl (congrArg Value.bool (orF hc9)) (Sub.skip rfl (Sub.skip rfl (Sub.skip rfl (Sub.skip rfl (Sub.refl _))))), fun _ s => s⟩
  refine WL.nil (then_normal ?_)
  refine WP.cond rfl (fun hc10 => ?_) (fun hc10 => ?_)
  ·
   replace hm := ite_t hc10 hm
   refine WP.seq (WP.region ?_)
   refine wq rfl rfl rfl (ov_assign rfl rfl) ?_
   refine WL.nil (then_normal (WP.ret (then_ret ?_)))
   obtain rfl := Option.some.inj hm
   refine retQ_ret Tryz.results7 (Res.tmp rfl Res.nil) rfl (fun w' s => ⟨s.below, ?_⟩)
   exact rfl
  ·
   replace hm := ite_f hc10 hm
   refine WP.skip (then_normal (WP.seq (WP.region ?_)))
   refine wq rfl rfl rfl (ov_load_whole (i := 0) Tryz.isAgg24 Tryz.sizeOf24 rfl rfl rfl rfl) ?_
   obtain ⟨r9, e10, hm⟩ := bind_some hm
   refine WL.step (Runs.free rfl) rfl rfl (os_con Tryz.call18 rfl rfl (fun w' s => (sequence_Repeats_con p_s ao1 cap1  w' H4 s.hold h1 hc1 hG r9 e10)) (fun rr5 H5 hle5 hR5 => ?_))
   replace h1 := h1.mono hle5
   replace h2 := h2.mono hle5
   replace h3 := h3.mono hle5
   replace h4 := h4.mono hle5
   replace h5 := h5.mono hle5
   replace hG := hG.mono hle5
   obtain ⟨ao6, cap6, rfl, h6, hc11⟩ := hR5
   refine wq rfl rfl rfl (ov_move rfl rfl) ?_
   refine wq rfl rfl rfl (ov_extract rfl rfl rfl) ?_
   refine wq rfl rfl rfl (ov_extract rfl rfl rfl) ?_
   refine wq rfl rfl rfl (ov_assign rfl rfl) ?_
   refine wq rfl rfl rfl (ov_assign rfl rfl) ?_
   refine WL.nil (then_normal (WP.seq (WP.region ?_)))
   refine wq rfl rfl rfl (ov_load_whole (i := 0) Tryz.isAgg24 Tryz.sizeOf24 rfl rfl rfl rfl) ?_
   obtain ⟨r10, e11, hm⟩ := bind_some hm
   refine WL.step (Runs.free rfl) rfl rfl (os_con Tryz.call41 rfl rfl (fun w' s => (ref14_Repeats_con p_s ao1 cap1  w' H5 s.hold h1 hc1 hG r10 e11)) (fun rr6 H6 hle6 hR6 => ?_))
   replace h1 := h1.mono hle6
   replace h2 := h2.mono hle6
   replace h3 := h3.mono hle6
   replace h4 := h4.mono hle6
   replace h6 := h6.mono hle6
   replace h5 := h5.mono hle6
   replace hG := hG.mono hle6
   obtain ⟨ao7, cap7, rfl, h7, hc12⟩ := hR6
   refine wq rfl rfl rfl (ov_move rfl rfl) ?_
   refine wq rfl rfl rfl (ov_extract rfl rfl rfl) ?_
   refine wq rfl rfl rfl (ov_extract rfl rfl rfl) ?_
   refine wq rfl rfl rfl (ov_assign rfl rfl) ?_
   refine wq rfl rfl rfl (ov_assign rfl rfl) ?_
   refine WL.nil (then_normal (WP.seq (WP.region ?_)))
   refine wq rfl rfl rfl (ov_move rfl rfl) ?_
   refine wq rfl rfl rfl (ov_move rfl rfl) ?_
   obtain ⟨r11, e12, hm⟩ := bind_some hm
   refine WL.quiet (Runs.free rfl) rfl rfl (oq_con (r := (.bool r11)) Tryz.call40 rfl rfl (fun w' s => ⟨_, (slices_Equal_intint_con r9.1 r10.1 ao6 cap6 ao7 cap7  w' H6 s.hold h6 hc11 h7 hc12 hG r11 e12)⟩)) ?_
   refine wq rfl rfl rfl (ov_move rfl rfl) ?_
   refine WL.cut_bool 4 78 (x := (r11 && (r9.2 == r10.2))) ?_ ?_
   ·
    rcases Bool.eq_false_or_eq_true r11 with hc13 | hc13
    ·
     skip
     refine WL.quiet (Runs.yes rfl rfl rfl hc13) rfl rfl (OV.quiet (ov_move rfl rfl)) ?_
     refine WL.quiet (Runs.yes rfl rfl rfl hc13) rfl rfl (OV.quiet (ov_move rfl rfl)) ?_
     refine WL.quiet (Runs.yes rfl rfl rfl hc13) rfl rfl (OV.quiet (ov_eql rfl rfl rfl)) ?_
     refine wq rfl rfl rfl (ov_pick_true rfl (guard_eq rfl hc13) rfl) ?_
     exact WL.nil ⟨Sub.cons' rfl (congrArg Value.bool (andT hc13)) (Sub.skip rfl (Sub.skip rfl (Sub.skip rfl (Sub.skip rfl (Sub.refl _))))), fun _ s => s⟩
    ·
     skip
     refine WL.idle (Idle.no rfl rfl rfl hc13) rfl rfl ?_
     refine WL.idle (Idle.no rfl rfl rfl hc13) rfl rfl ?_
     refine WL.idle (Idle.no rfl rfl rfl hc13) rfl rfl ?_
     refine wq rfl rfl rfl (ov_pick_false rfl (guard_eq rfl hc13) rfl) ?_
     exact WL.nil ⟨Sub.cons' rfl (congrArg Value.bool (andF hc13)) (Sub.skip rfl (Sub.skip rfl (Sub.skip rfl (Sub.skip rfl (Sub.refl _))))), fun _ s => s⟩
   refine wq rfl rfl rfl (ov_move rfl rfl) ?_
   obtain ⟨c2, e13, hm⟩ := bind_some hm
   refine WL.cut_bool 2 81 (x := c2) ?_ ?_
   ·
    rcases Bool.eq_false_or_eq_true (r11 && (r9.2 == r10.2)) with hc14 | hc14
    ·
     skip
     replace hm := ite_t hc14 e13
     obtain ⟨r12, e14, hm⟩ := bind_some hm
     refine WL.quiet (Runs.yes rfl rfl rfl hc14) rfl rfl (oq_con (r := (.bool r12)) Tryz.call12 rfl rfl (fun w' s => ⟨_, (law14_awake_con   w' H6 s.hold hG r12 e14)⟩)) ?_
     refine wq rfl rfl rfl (ov_pick_true rfl (guard_eq rfl hc14) rfl) ?_
     exact WL.nil ⟨Sub.cons' rfl (congrArg Value.bool (Option.some.inj hm)) (Sub.skip rfl (Sub.skip rfl (Sub.refl _))), fun _ s => s⟩
    ·
     skip
     replace hm := ite_f hc14 e13
     refine WL.idle (Idle.no rfl rfl rfl hc14) rfl rfl ?_
     refine wq rfl rfl rfl (ov_pick_false rfl (guard_eq rfl hc14) rfl) ?_
     exact WL.nil ⟨Sub.cons' rfl (congrArg Value.bool (Option.some.inj hm)) (Sub.skip rfl (Sub.skip rfl (Sub.refl _))), fun _ s => s⟩
   refine wq rfl rfl rfl (ov_assign rfl rfl) ?_
   refine WL.nil (then_normal (WP.ret ?_))
   obtain rfl := Option.some.inj hm
   refine retQ_ret Tryz.results7 (Res.tmp rfl Res.nil) rfl (fun w' s => ⟨s.below, ?_⟩)
   exact rfl

end Go.Proofs.YtbhcojijafbdiaaGreatDoor.W
