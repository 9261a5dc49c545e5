/- The walks. Written by our own program gen.py; Lean checks it. -/
import Derived.Test.YtbiifgojhljkjaaGreatDoorPlain
import Derived.Test.YtbiifgojhljkjaaGreatDoorEqs
import Derived.Test.YtbiifgojhljkjaaGreatDoorProg
import Derived.Test.YtbiifgojhljkjaaGreatDoorExt
import Derived.Test.YtbiifgojhljkjaaGreatDoorClone
import Derived.Test.YtbiifgojhljkjaaGreatDoorWalk0
import Derived.Test.YtbiifgojhljkjaaGreatDoorWalk1
import Derived.Test.YtbiifgojhljkjaaGreatDoorWalk2
import Derived.Test.YtbiifgojhljkjaaGreatDoorWalk3
set_option linter.unusedVariables false
set_option maxRecDepth 100000
set_option maxHeartbeats 4000000
namespace Go.Proofs.YtbiifgojhljkjaaGreatDoor.W
open Go Go.RowKit
theorem law13_StrokeFormats_con (p_l : (List Step)) (ao1 : Option Addr) (cap1 : Nat) (w : World) (H : Heap) (hH : Le H (hp w)) (h1 : SL H encStep ao1 p_l) (hc1 : p_l.length ≤ cap1) (hG : Glob H) (r : Bool) (hm : law13_StrokeFormats p_l = some r) :
    Con Tryz.prog 3 [(.slice ao1 p_l.length cap1)] w H (fun v _ => v = (.bool r)) := by
  unfold law13_StrokeFormats at hm
  refine con_of hH Tryz.func3 rfl 36 Tryz.ntmps3 rfl ?_
  refine WP.seq (WP.region ?_)
  refine wq rfl rfl rfl (ov_assign rfl rfl) ?_
  refine WL.nil (then_normal (WP.seq (WP.seq (WP.region ?_))))
  refine wq rfl rfl rfl (ov_move rfl rfl) ?_
  refine wq rfl rfl rfl (ov_len_slice Tryz.underlying22 rfl rfl) ?_
  refine wq rfl rfl rfl (ov_gtr rfl rfl rfl) ?_
  refine wq rfl rfl rfl (ov_move rfl rfl) ?_
  obtain ⟨c1, e1, hm⟩ := bind_some hm
  refine WL.cut_bool 3 13 (x := c1) ?_ ?_
  · rcases Bool.eq_false_or_eq_true (decide ((p_l.length : Int) > 128)) with hc2 | hc2
    · skip
      replace hm := ite_t hc2 e1
      refine WL.idle (Idle.no rfl rfl rfl hc2) rfl rfl ?_
      refine WL.idle (Idle.no rfl rfl rfl hc2) rfl rfl ?_
      refine wq rfl rfl rfl (ov_pick_true rfl (guard_eq rfl hc2) rfl) ?_
      exact WL.nil ⟨Sub.cons' rfl (congrArg Value.bool (Option.some.inj hm)) (Sub.skip rfl (Sub.skip rfl (Sub.skip rfl (Sub.refl _)))), fun _ s => s⟩
    · skip
      replace hm := ite_f hc2 e1
      refine WL.quiet (Runs.yes rfl rfl rfl hc2) rfl rfl (OV.quiet (ov_move rfl rfl)) ?_
      obtain ⟨r1, e2, hm⟩ := bind_some hm
      refine WL.quiet (Runs.yes rfl rfl rfl hc2) rfl rfl (oq_con (r := (.bool r1)) Tryz.call6 rfl rfl (fun w' s => ⟨_, (slices_ContainsFunc_api_Stepapi_Step_law13_StrokeFormats_1_con p_l ao1 cap1  w' H s.hold h1 hc1 hG r1 e2)⟩)) ?_
      refine wq rfl rfl rfl (ov_pick_false rfl (guard_eq rfl hc2) rfl) ?_
      exact WL.nil ⟨Sub.cons' rfl (congrArg Value.bool (Option.some.inj hm)) (Sub.skip rfl (Sub.skip rfl (Sub.skip rfl (Sub.refl _)))), fun _ s => s⟩
  refine WL.nil (then_normal ?_)
  refine WP.cond rfl (fun hc3 => ?_) (fun hc3 => ?_)
  · replace hm := ite_t hc3 hm
    refine WP.seq (WP.region ?_)
    obtain ⟨r2, e3, hm⟩ := bind_some hm
    refine WL.quiet (Runs.free rfl) rfl rfl (oq_con (r := (.bool r2)) Tryz.call9 rfl rfl (fun w' s => ⟨_, (law13_awake_con   w' H s.hold hG r2 e3)⟩)) ?_
    refine wq rfl rfl rfl (ov_assign rfl rfl) ?_
    refine WL.nil (then_normal (WP.ret (then_ret ?_)))
    obtain rfl := Option.some.inj hm
    refine retQ_ret Tryz.results3 (Res.tmp rfl Res.nil) rfl (fun w' s => ⟨s.below, ?_⟩)
    exact rfl
  · replace hm := ite_f hc3 hm
    refine WP.skip (then_normal (WP.seq (WP.region ?_)))
    refine wq rfl rfl rfl (ov_move rfl rfl) ?_
    obtain ⟨r3, e4, hm⟩ := bind_some hm
    refine WL.quiet (Runs.free rfl) rfl rfl (oq_con (r := (.tuple #[(mkS r3.1), (.int .i64 r3.2)])) Tryz.call10 rfl rfl (fun w' s => ⟨_, (stroke_Format_con p_l ao1 cap1  w' H s.hold h1 hc1 hG r3 e4)⟩)) ?_
    refine wq rfl rfl rfl (ov_move rfl rfl) ?_
    refine wq rfl rfl rfl (ov_extract rfl rfl rfl) ?_
    refine wq rfl rfl rfl (ov_extract rfl rfl rfl) ?_
    refine wq rfl rfl rfl (ov_assign rfl rfl) ?_
    refine wq rfl rfl rfl (ov_assign rfl rfl) ?_
    refine WL.nil (then_normal (WP.seq (WP.region ?_)))
    refine wq rfl rfl rfl (ov_move rfl rfl) ?_
    obtain ⟨r4, e5, hm⟩ := bind_some hm
    refine WL.quiet (Runs.free rfl) rfl rfl (oq_con (r := (.tuple #[(mkS r4.1), (.int .i64 r4.2)])) Tryz.call11 rfl rfl (fun w' s => ⟨_, (ref13_Format_con p_l ao1 cap1  w' H s.hold h1 hc1 hG r4 e5)⟩)) ?_
    refine wq rfl rfl rfl (ov_move rfl rfl) ?_
    refine wq rfl rfl rfl (ov_extract rfl rfl rfl) ?_
    refine wq rfl rfl rfl (ov_extract rfl rfl rfl) ?_
    refine wq rfl rfl rfl (ov_assign rfl rfl) ?_
    refine wq rfl rfl rfl (ov_assign rfl rfl) ?_
    refine WL.nil (then_normal (WP.seq (WP.region ?_)))
    refine wq rfl rfl rfl (ov_move rfl rfl) ?_
    refine wq rfl rfl rfl (ov_move rfl rfl) ?_
    refine wq rfl rfl rfl (ov_seql rfl rfl rfl) ?_
    refine wq rfl rfl rfl (ov_move rfl rfl) ?_
    refine WL.cut_bool 4 32 (x := ((r3.1 == r4.1) && (r3.2 == r4.2))) ?_ ?_
    · rcases Bool.eq_false_or_eq_true (r3.1 == r4.1) with hc4 | hc4
      · skip
        refine WL.quiet (Runs.yes rfl rfl rfl hc4) rfl rfl (OV.quiet (ov_move rfl rfl)) ?_
        refine WL.quiet (Runs.yes rfl rfl rfl hc4) rfl rfl (OV.quiet (ov_move rfl rfl)) ?_
        refine WL.quiet (Runs.yes rfl rfl rfl hc4) rfl rfl (OV.quiet (ov_eql rfl rfl rfl)) ?_
        refine wq rfl rfl rfl (ov_pick_true rfl (guard_eq rfl hc4) rfl) ?_
        exact WL.nil ⟨Sub.cons' rfl (congrArg Value.bool (andT hc4)) (Sub.skip rfl (Sub.skip rfl (Sub.skip rfl (Sub.skip rfl (Sub.refl _))))), fun _ s => s⟩
      · skip
        refine WL.idle (Idle.no rfl rfl rfl hc4) rfl rfl ?_
        refine WL.idle (Idle.no rfl rfl rfl hc4) rfl rfl ?_
        refine WL.idle (Idle.no rfl rfl rfl hc4) rfl rfl ?_
        refine wq rfl rfl rfl (ov_pick_false rfl (guard_eq rfl hc4) rfl) ?_
        exact WL.nil ⟨Sub.cons' rfl (congrArg Value.bool (andF hc4)) (Sub.skip rfl (Sub.skip rfl (Sub.skip rfl (Sub.skip rfl (Sub.refl _))))), fun _ s => s⟩
    refine wq rfl rfl rfl (ov_move rfl rfl) ?_
    obtain ⟨c2, e6, hm⟩ := bind_some hm
    refine WL.cut_bool 2 35 (x := c2) ?_ ?_
    · rcases Bool.eq_false_or_eq_true ((r3.1 == r4.1) && (r3.2 == r4.2)) with hc5 | hc5
      · skip
        replace hm := ite_t hc5 e6
        obtain ⟨r5, e7, hm⟩ := bind_some hm
        refine WL.quiet (Runs.yes rfl rfl rfl hc5) rfl rfl (oq_con (r := (.bool r5)) Tryz.call9 rfl rfl (fun w' s => ⟨_, (law13_awake_con   w' H s.hold hG r5 e7)⟩)) ?_
        refine wq rfl rfl rfl (ov_pick_true rfl (guard_eq rfl hc5) rfl) ?_
        exact WL.nil ⟨Sub.cons' rfl (congrArg Value.bool (Option.some.inj hm)) (Sub.skip rfl (Sub.skip rfl (Sub.refl _))), fun _ s => s⟩
      · skip
        replace hm := ite_f hc5 e6
        refine WL.idle (Idle.no rfl rfl rfl hc5) rfl rfl ?_
        refine wq rfl rfl rfl (ov_pick_false rfl (guard_eq rfl hc5) rfl) ?_
        exact WL.nil ⟨Sub.cons' rfl (congrArg Value.bool (Option.some.inj hm)) (Sub.skip rfl (Sub.skip rfl (Sub.refl _))), fun _ s => s⟩
    refine wq rfl rfl rfl (ov_assign rfl rfl) ?_
    refine WL.nil (then_normal (WP.ret ?_))
    obtain rfl := Option.some.inj hm
    refine retQ_ret Tryz.results3 (Res.tmp rfl Res.nil) rfl (fun w' s => ⟨s.below, ?_⟩)
    exact rfl

end Go.Proofs.YtbiifgojhljkjaaGreatDoor.W
