/- The walks. Written by our own program gen.py; Lean checks it. -/
import Derived.Test.YtbiifgojhljkjaaGreatDoorPlain
import Derived.Test.YtbiifgojhljkjaaGreatDoorEqs
import Derived.Test.YtbiifgojhljkjaaGreatDoorProg
import Derived.Test.YtbiifgojhljkjaaGreatDoorExt
import Derived.Test.YtbiifgojhljkjaaGreatDoorClone
import Derived.Test.YtbiifgojhljkjaaGreatDoorWalk1
import Derived.Test.YtbiifgojhljkjaaGreatDoorWalk2
import Derived.Test.YtbiifgojhljkjaaGreatDoorWalk3
import Derived.Test.YtbiifgojhljkjaaGreatDoorWalk4
set_option linter.unusedVariables false
set_option maxRecDepth 100000
set_option maxHeartbeats 4000000
namespace Go.Proofs.YtbiifgojhljkjaaGreatDoor.W
open Go Go.RowKit
theorem law13_StrokeParses_con (p_s : (List UInt8)) (w : World) (H : Heap) (hH : Le H (hp w)) (hG : Glob H) (r : Bool) (hm : law13_StrokeParses p_s = some r) :
    Con Tryz.prog 4 [(mkS p_s)] w H (fun v _ => v = (.bool r)) := by
  unfold law13_StrokeParses at hm
  refine con_of hH Tryz.func4 rfl 51 Tryz.ntmps4 rfl ?_
  refine WP.seq (WP.region ?_)
  refine wq rfl rfl rfl (ov_assign rfl rfl) ?_
  refine WL.nil (then_normal (WP.seq (WP.seq (WP.region ?_))))
  refine wq rfl rfl rfl (ov_move rfl rfl) ?_
  refine wq rfl rfl rfl (ov_len_string Tryz.underlying9 rfl rfl) ?_
  refine wq rfl rfl rfl (ov_gtr rfl rfl rfl) ?_
  refine wq rfl rfl rfl (ov_move rfl rfl) ?_
  refine WL.cut_bool 4 16 (x := ((decide ((p_s.length : Int) > 800)) && (decide ((p_s.length : Int) ≤ 4096)))) ?_ ?_
  · rcases Bool.eq_false_or_eq_true (decide ((p_s.length : Int) > 800)) with hc1 | hc1
    · skip
      refine WL.quiet (Runs.yes rfl rfl rfl hc1) rfl rfl (OV.quiet (ov_move rfl rfl)) ?_
      refine WL.quiet (Runs.yes rfl rfl rfl hc1) rfl rfl (OV.quiet (ov_len_string Tryz.underlying9 rfl rfl)) ?_
      refine WL.quiet (Runs.yes rfl rfl rfl hc1) rfl rfl (OV.quiet (ov_leq rfl rfl rfl)) ?_
      refine wq rfl rfl rfl (ov_pick_true rfl (guard_eq rfl hc1) rfl) ?_
      exact WL.nil ⟨Sub.cons' rfl (congrArg Value.bool (andT hc1)) (Sub.skip rfl (Sub.skip rfl (Sub.skip rfl (Sub.skip rfl (Sub.refl _))))), fun _ s => s⟩
    · skip
      refine WL.idle (Idle.no rfl rfl rfl hc1) rfl rfl ?_
      refine WL.idle (Idle.no rfl rfl rfl hc1) rfl rfl ?_
      refine WL.idle (Idle.no rfl rfl rfl hc1) rfl rfl ?_
      refine wq rfl rfl rfl (ov_pick_false rfl (guard_eq rfl hc1) rfl) ?_
      exact WL.nil ⟨Sub.cons' rfl (congrArg Value.bool (andF hc1)) (Sub.skip rfl (Sub.skip rfl (Sub.skip rfl (Sub.skip rfl (Sub.refl _))))), fun _ s => s⟩
  refine wq rfl rfl rfl (ov_move rfl rfl) ?_
  refine WL.cut_bool 4 21 (x := (((decide ((p_s.length : Int) > 800)) && (decide ((p_s.length : Int) ≤ 4096))) || (decide ((p_s.length : Int) > 8192)))) ?_ ?_
  · rcases Bool.eq_false_or_eq_true ((decide ((p_s.length : Int) > 800)) && (decide ((p_s.length : Int) ≤ 4096))) with hc2 | hc2
    · skip
      refine WL.idle (Idle.no rfl rfl rfl hc2) rfl rfl ?_
      refine WL.idle (Idle.no rfl rfl rfl hc2) rfl rfl ?_
      refine WL.idle (Idle.no rfl rfl rfl hc2) rfl rfl ?_
      refine wq rfl rfl rfl (ov_pick_true rfl (guard_eq rfl hc2) rfl) ?_
      exact WL.nil ⟨Sub.cons' rfl (congrArg Value.bool (orT hc2)) (Sub.skip rfl (Sub.skip rfl (Sub.skip rfl (Sub.skip rfl (Sub.refl _))))), fun _ s => s⟩
    · skip
      refine WL.quiet (Runs.yes rfl rfl rfl hc2) rfl rfl (OV.quiet (ov_move rfl rfl)) ?_
      refine WL.quiet (Runs.yes rfl rfl rfl hc2) rfl rfl (OV.quiet (ov_len_string Tryz.underlying9 rfl rfl)) ?_
      refine WL.quiet (Runs.yes rfl rfl rfl hc2) rfl rfl (OV.quiet (ov_gtr rfl rfl rfl)) ?_
      refine wq rfl rfl rfl (ov_pick_false rfl (guard_eq rfl hc2) rfl) ?_
      exact WL.nil ⟨Sub.cons' rfl (congrArg Value.bool (orF hc2)) (Sub.skip rfl (Sub.skip rfl (Sub.skip rfl (Sub.skip rfl (Sub.refl _))))), fun _ s => s⟩
  refine WL.nil (then_normal ?_)
  refine WP.cond rfl (fun hc3 => ?_) (fun hc3 => ?_)
  · replace hm := ite_t hc3 hm
    refine WP.seq (WP.region ?_)
    obtain ⟨r1, e1, hm⟩ := bind_some hm
    refine WL.quiet (Runs.free rfl) rfl rfl (oq_con (r := (.bool r1)) Tryz.call9 rfl rfl (fun w' s => ⟨_, (law13_awake_con   w' H s.hold hG r1 e1)⟩)) ?_
    refine wq rfl rfl rfl (ov_assign rfl rfl) ?_
    refine WL.nil (then_normal (WP.ret (then_ret ?_)))
    obtain rfl := Option.some.inj hm
    refine retQ_ret Tryz.results4 (Res.tmp rfl Res.nil) rfl (fun w' s => ⟨s.below, ?_⟩)
    exact rfl
  · replace hm := ite_f hc3 hm
    refine WP.skip (then_normal (WP.seq (WP.region ?_)))
    refine wq rfl rfl rfl (ov_move rfl rfl) ?_
    obtain ⟨r2, e2, hm⟩ := bind_some hm
    refine WL.step (Runs.free rfl) rfl rfl (os_con Tryz.call12 rfl rfl (fun w' s => (stroke_Parse_con p_s  w' H s.hold hG r2 e2)) (fun rr1 H1 hle1 hR1 => ?_))
    replace hG := hG.mono hle1
    obtain ⟨ao1, cap1, rfl, h1, hc4⟩ := hR1
    refine wq rfl rfl rfl (ov_move rfl rfl) ?_
    refine wq rfl rfl rfl (ov_extract rfl rfl rfl) ?_
    refine wq rfl rfl rfl (ov_extract rfl rfl rfl) ?_
    refine wq rfl rfl rfl (ov_extract rfl rfl rfl) ?_
    refine wq rfl rfl rfl (ov_assign rfl rfl) ?_
    refine wq rfl rfl rfl (ov_assign rfl rfl) ?_
    refine wq rfl rfl rfl (ov_assign rfl rfl) ?_
    refine WL.nil (then_normal (WP.seq (WP.region ?_)))
    refine wq rfl rfl rfl (ov_move rfl rfl) ?_
    obtain ⟨r3, e3, hm⟩ := bind_some hm
    refine WL.step (Runs.free rfl) rfl rfl (os_con Tryz.call13 rfl rfl (fun w' s => (ref13_Parse_con p_s  w' H1 s.hold hG r3 e3)) (fun rr2 H2 hle2 hR2 => ?_))
    replace h1 := h1.mono hle2
    replace hG := hG.mono hle2
    obtain ⟨ao2, cap2, rfl, h2, hc5⟩ := hR2
    refine wq rfl rfl rfl (ov_move rfl rfl) ?_
    refine wq rfl rfl rfl (ov_extract rfl rfl rfl) ?_
    refine wq rfl rfl rfl (ov_extract rfl rfl rfl) ?_
    refine wq rfl rfl rfl (ov_extract rfl rfl rfl) ?_
    refine wq rfl rfl rfl (ov_assign rfl rfl) ?_
    refine wq rfl rfl rfl (ov_assign rfl rfl) ?_
    refine wq rfl rfl rfl (ov_assign rfl rfl) ?_
    refine WL.nil (then_normal (WP.seq (WP.region ?_)))
    refine wq rfl rfl rfl (ov_move rfl rfl) ?_
    refine wq rfl rfl rfl (ov_move rfl rfl) ?_
    obtain ⟨r4, e4, hm⟩ := bind_some hm
    refine WL.quiet (Runs.free rfl) rfl rfl (oq_con (r := (.bool r4)) Tryz.call14 rfl rfl (fun w' s => ⟨_, (ref13_SameSteps_con r2.1 r3.1 ao1 cap1 ao2 cap2  w' H2 s.hold h1 hc4 h2 hc5 hG r4 e4)⟩)) ?_
    refine wq rfl rfl rfl (ov_move rfl rfl) ?_
    refine WL.cut_bool 4 42 (x := (r4 && (r2.2.1 == r3.2.1))) ?_ ?_
    · rcases Bool.eq_false_or_eq_true r4 with hc6 | hc6
      · skip
        refine WL.quiet (Runs.yes rfl rfl rfl hc6) rfl rfl (OV.quiet (ov_move rfl rfl)) ?_
        refine WL.quiet (Runs.yes rfl rfl rfl hc6) rfl rfl (OV.quiet (ov_move rfl rfl)) ?_
        refine WL.quiet (Runs.yes rfl rfl rfl hc6) rfl rfl (OV.quiet (ov_eql rfl rfl rfl)) ?_
        refine wq rfl rfl rfl (ov_pick_true rfl (guard_eq rfl hc6) rfl) ?_
        exact WL.nil ⟨Sub.cons' rfl (congrArg Value.bool (andT hc6)) (Sub.skip rfl (Sub.skip rfl (Sub.skip rfl (Sub.skip rfl (Sub.refl _))))), fun _ s => s⟩
      · skip
        refine WL.idle (Idle.no rfl rfl rfl hc6) rfl rfl ?_
        refine WL.idle (Idle.no rfl rfl rfl hc6) rfl rfl ?_
        refine WL.idle (Idle.no rfl rfl rfl hc6) rfl rfl ?_
        refine wq rfl rfl rfl (ov_pick_false rfl (guard_eq rfl hc6) rfl) ?_
        exact WL.nil ⟨Sub.cons' rfl (congrArg Value.bool (andF hc6)) (Sub.skip rfl (Sub.skip rfl (Sub.skip rfl (Sub.skip rfl (Sub.refl _))))), fun _ s => s⟩
    refine wq rfl rfl rfl (ov_move rfl rfl) ?_
    refine WL.cut_bool 4 47 (x := ((r4 && (r2.2.1 == r3.2.1)) && (r2.2.2 == r3.2.2))) ?_ ?_
    · rcases Bool.eq_false_or_eq_true (r4 && (r2.2.1 == r3.2.1)) with hc7 | hc7
      · skip
        refine WL.quiet (Runs.yes rfl rfl rfl hc7) rfl rfl (OV.quiet (ov_move rfl rfl)) ?_
        refine WL.quiet (Runs.yes rfl rfl rfl hc7) rfl rfl (OV.quiet (ov_move rfl rfl)) ?_
        refine WL.quiet (Runs.yes rfl rfl rfl hc7) rfl rfl (OV.quiet (ov_eql rfl rfl rfl)) ?_
        refine wq rfl rfl rfl (ov_pick_true rfl (guard_eq rfl hc7) rfl) ?_
        exact WL.nil ⟨Sub.cons' rfl (congrArg Value.bool (andT hc7)) (Sub.skip rfl (Sub.skip rfl (Sub.skip rfl (Sub.skip rfl (Sub.refl _))))), fun _ s => s⟩
      · skip
        refine WL.idle (Idle.no rfl rfl rfl hc7) rfl rfl ?_
        refine WL.idle (Idle.no rfl rfl rfl hc7) rfl rfl ?_
        refine WL.idle (Idle.no rfl rfl rfl hc7) rfl rfl ?_
        refine wq rfl rfl rfl (ov_pick_false rfl (guard_eq rfl hc7) rfl) ?_
        exact WL.nil ⟨Sub.cons' rfl (congrArg Value.bool (andF hc7)) (Sub.skip rfl (Sub.skip rfl (Sub.skip rfl (Sub.skip rfl (Sub.refl _))))), fun _ s => s⟩
    refine wq rfl rfl rfl (ov_move rfl rfl) ?_
    obtain ⟨c1, e5, hm⟩ := bind_some hm
    refine WL.cut_bool 2 50 (x := c1) ?_ ?_
    · rcases Bool.eq_false_or_eq_true ((r4 && (r2.2.1 == r3.2.1)) && (r2.2.2 == r3.2.2)) with hc8 | hc8
      · skip
        replace hm := ite_t hc8 e5
        obtain ⟨r5, e6, hm⟩ := bind_some hm
        refine WL.quiet (Runs.yes rfl rfl rfl hc8) rfl rfl (oq_con (r := (.bool r5)) Tryz.call9 rfl rfl (fun w' s => ⟨_, (law13_awake_con   w' H2 s.hold hG r5 e6)⟩)) ?_
        refine wq rfl rfl rfl (ov_pick_true rfl (guard_eq rfl hc8) rfl) ?_
        exact WL.nil ⟨Sub.cons' rfl (congrArg Value.bool (Option.some.inj hm)) (Sub.skip rfl (Sub.skip rfl (Sub.refl _))), fun _ s => s⟩
      · skip
        replace hm := ite_f hc8 e5
        refine WL.idle (Idle.no rfl rfl rfl hc8) rfl rfl ?_
        refine wq rfl rfl rfl (ov_pick_false rfl (guard_eq rfl hc8) rfl) ?_
        exact WL.nil ⟨Sub.cons' rfl (congrArg Value.bool (Option.some.inj hm)) (Sub.skip rfl (Sub.skip rfl (Sub.refl _))), fun _ s => s⟩
    refine wq rfl rfl rfl (ov_assign rfl rfl) ?_
    refine WL.nil (then_normal (WP.ret ?_))
    obtain rfl := Option.some.inj hm
    refine retQ_ret Tryz.results4 (Res.tmp rfl Res.nil) rfl (fun w' s => ⟨s.below, ?_⟩)
    exact rfl

end Go.Proofs.YtbiifgojhljkjaaGreatDoor.W
