/- The walks. Written by our own program gen.py; Lean checks it. -/
import Derived.Test.YtllhdlnnlckceaaDoorPlain
import Derived.Test.YtllhdlnnlckceaaDoorEqs
import Derived.Test.YtllhdlnnlckceaaDoorProg
import Derived.Test.YtllhdlnnlckceaaDoorStdWalk0
import Derived.Test.YtllhdlnnlckceaaDoorTrim
import Derived.Test.YtllhdlnnlckceaaDoorWalk3
set_option linter.unusedVariables false
set_option maxRecDepth 100000
namespace Go.Proofs.YtllhdlnnlckceaaDoor.W
open Go Go.RowKit
theorem law03_TimespanSums_con (p_l : (List Span)) (ao1 : Option Addr) (cap1 : Nat) (w : World) (H : Heap) (hH : Le H (hp w)) (h1 : SL H encSpan ao1 p_l) (hc1 : p_l.length ≤ cap1) (hG : Glob H) (r : Bool) (hm : law03_TimespanSums p_l = some r) :
    Con Tryd.prog 10 [(.slice ao1 p_l.length cap1)] w H (fun v _ => v = (.bool r)) := by
  unfold law03_TimespanSums at hm
  refine con_of hH Tryd.func10 rfl 32 Tryd.ntmps10 rfl ?_
  refine WP.seq ?_
  refine WP.region ?_
  refine WL.quiet (Runs.free rfl) rfl rfl (OV.quiet (ov_assign rfl rfl)) ?_
  refine WL.nil ?_
  refine then_normal ?_
  refine WP.seq ?_
  refine WP.seq ?_
  refine WP.region ?_
  refine WL.quiet (Runs.free rfl) rfl rfl (OV.quiet (ov_move rfl rfl)) ?_
  refine WL.quiet (Runs.free rfl) rfl rfl (OV.quiet (ov_len_slice Tryd.underlying61 rfl rfl)) ?_
  refine WL.quiet (Runs.free rfl) rfl rfl (OV.quiet (ov_gtr rfl rfl rfl)) ?_
  refine WL.nil ?_
  refine then_normal ?_
  refine WP.cond rfl (fun hc2 => ?_) (fun hc2 => ?_)
  · replace hm := ite_t hc2 hm
    refine WP.seq ?_
    refine WP.region ?_
    obtain ⟨r1, e1, hm⟩ := bind_some hm
    refine WL.quiet (Runs.free rfl) rfl rfl (oq_con (r := (.bool r1)) Tryd.call11 rfl rfl (fun w' s => ⟨_, (law03_awake_con   w' H s.hold hG r1 e1)⟩)) ?_
    refine WL.quiet (Runs.free rfl) rfl rfl (OV.quiet (ov_assign rfl rfl)) ?_
    refine WL.nil ?_
    refine then_normal ?_
    refine WP.ret ?_
    refine then_ret ?_
    obtain rfl := Option.some.inj hm
    refine retQ_ret Tryd.results10 (Res.tmp rfl Res.nil) rfl (fun w' s => ⟨s.below, ?_⟩)
    exact rfl
  · replace hm := ite_f hc2 hm
    refine WP.skip ?_
    refine then_normal ?_
    refine WP.seq ?_
    refine WP.region ?_
    refine WL.quiet (Runs.free rfl) rfl rfl (OV.quiet (ov_move rfl rfl)) ?_
    obtain ⟨r2, e2, hm⟩ := bind_some hm
    refine WL.quiet (Runs.free rfl) rfl rfl (oq_con (r := (.tuple #[(.agg #[(.int .i64 r2.1.low), (.int .i64 r2.1.high)]), (.int .i64 r2.2)])) Tryd.call38 rfl rfl (fun w' s => ⟨_, (timespan_Sum_con p_l ao1 cap1  w' H s.hold h1 hc1 hG r2 e2)⟩)) ?_
    refine WL.quiet (Runs.free rfl) rfl rfl (OV.quiet (ov_move rfl rfl)) ?_
    refine WL.quiet (Runs.free rfl) rfl rfl (OV.quiet (ov_extract rfl rfl rfl)) ?_
    refine WL.quiet (Runs.free rfl) rfl rfl (OV.quiet (ov_extract rfl rfl rfl)) ?_
    refine WL.step (Runs.free rfl) rfl rfl (os_alloc (cs := [(.int .i64 0), (.int .i64 0)]) Tryd.zeroValue23 rfl rfl (fun b1 => ?_))
    refine WL.step0 (Runs.free rfl) rfl (os_store (i := 0) (vs := [(.int .i64 r2.1.low), (.int .i64 r2.1.high)]) (cs' := [(.int .i64 r2.1.low), (.int .i64 r2.1.high)]) Tryd.sizeOf23 rfl rfl rfl rfl rfl rfl rfl rfl rfl ?_)
    refine WL.quiet (Runs.free rfl) rfl rfl (OV.quiet (ov_assign rfl rfl)) ?_
    refine WL.nil ?_
    refine then_normal ?_
    refine WP.seq ?_
    refine WP.region ?_
    refine WL.quiet (Runs.free rfl) rfl rfl (OV.quiet (ov_move rfl rfl)) ?_
    obtain ⟨r3, e3, hm⟩ := bind_some hm
    refine WL.quiet (Runs.free rfl) rfl rfl (oq_con (r := (.tuple #[(.agg #[(.int .i64 r3.1.low), (.int .i64 r3.1.high)]), (.int .i64 r3.2)])) Tryd.call39 rfl rfl (fun w' s => ⟨_, (ref03_Sum_con p_l ao1 cap1  w' H s.hold h1 hc1 hG r3 e3)⟩)) ?_
    refine WL.quiet (Runs.free rfl) rfl rfl (OV.quiet (ov_move rfl rfl)) ?_
    refine WL.quiet (Runs.free rfl) rfl rfl (OV.quiet (ov_extract rfl rfl rfl)) ?_
    refine WL.quiet (Runs.free rfl) rfl rfl (OV.quiet (ov_extract rfl rfl rfl)) ?_
    refine WL.step (Runs.free rfl) rfl rfl (os_alloc (cs := [(.int .i64 0), (.int .i64 0)]) Tryd.zeroValue23 rfl rfl (fun b2 => ?_))
    refine WL.step0 (Runs.free rfl) rfl (os_store (i := 0) (vs := [(.int .i64 r3.1.low), (.int .i64 r3.1.high)]) (cs' := [(.int .i64 r3.1.low), (.int .i64 r3.1.high)]) Tryd.sizeOf23 rfl rfl rfl rfl rfl rfl rfl rfl rfl ?_)
    refine WL.quiet (Runs.free rfl) rfl rfl (OV.quiet (ov_assign rfl rfl)) ?_
    refine WL.nil ?_
    refine then_normal ?_
    refine WP.seq ?_
    refine WP.region ?_
    refine WL.quiet (Runs.free rfl) rfl rfl (OV.quiet (ov_load_whole (i := 1) Tryd.isAgg23 Tryd.sizeOf23 rfl rfl rfl rfl)) ?_
    refine WL.quiet (Runs.free rfl) rfl rfl (OV.quiet (ov_load_whole (i := 0) Tryd.isAgg23 Tryd.sizeOf23 rfl rfl rfl rfl)) ?_
    refine WL.quiet (Runs.free rfl) rfl rfl (OV.quiet (eql_struct23 rfl rfl rfl)) ?_
    refine WL.quiet (Runs.free rfl) rfl rfl (OV.quiet (ov_move rfl rfl)) ?_
    refine WL.cut_bool 4 28 (x := ((r2.1 == r3.1) && (r2.2 == r3.2))) ?_ ?_
    · rcases Bool.eq_false_or_eq_true (r2.1 == r3.1) with hc3 | hc3
      · skip
        refine WL.quiet (Runs.yes rfl rfl rfl hc3) rfl rfl (OV.quiet (ov_move rfl rfl)) ?_
        refine WL.quiet (Runs.yes rfl rfl rfl hc3) rfl rfl (OV.quiet (ov_move rfl rfl)) ?_
        refine WL.quiet (Runs.yes rfl rfl rfl hc3) rfl rfl (OV.quiet (ov_eql rfl rfl rfl)) ?_
        refine WL.quiet (Runs.free rfl) rfl rfl (OV.quiet (ov_pick_true rfl (guard_eq rfl hc3) rfl)) ?_
        exact WL.nil ⟨Sub.cons' rfl (congrArg Value.bool (by rw [hc3]; rfl)) (Sub.skip rfl (Sub.skip rfl (Sub.skip rfl (Sub.skip rfl (Sub.refl _))))), fun _ s => s⟩
      · skip
        refine WL.idle (Idle.no rfl rfl rfl hc3) rfl rfl ?_
        refine WL.idle (Idle.no rfl rfl rfl hc3) rfl rfl ?_
        refine WL.idle (Idle.no rfl rfl rfl hc3) rfl rfl ?_
        refine WL.quiet (Runs.free rfl) rfl rfl (OV.quiet (ov_pick_false rfl (guard_eq rfl hc3) rfl)) ?_
        exact WL.nil ⟨Sub.cons' rfl (congrArg Value.bool (by rw [hc3]; rfl)) (Sub.skip rfl (Sub.skip rfl (Sub.skip rfl (Sub.skip rfl (Sub.refl _))))), fun _ s => s⟩
    refine WL.quiet (Runs.free rfl) rfl rfl (OV.quiet (ov_move rfl rfl)) ?_
    obtain ⟨c1, e4, hm⟩ := bind_some hm
    refine WL.cut_bool 2 31 (x := c1) ?_ ?_
    · rcases Bool.eq_false_or_eq_true ((r2.1 == r3.1) && (r2.2 == r3.2)) with hc4 | hc4
      · skip
        replace hm := ite_t hc4 e4
        obtain ⟨r4, e5, hm⟩ := bind_some hm
        refine WL.quiet (Runs.yes rfl rfl rfl hc4) rfl rfl (oq_con (r := (.bool r4)) Tryd.call11 rfl rfl (fun w' s => ⟨_, (law03_awake_con   w' H s.hold hG r4 e5)⟩)) ?_
        refine WL.quiet (Runs.free rfl) rfl rfl (OV.quiet (ov_pick_true rfl (guard_eq rfl hc4) rfl)) ?_
        exact WL.nil ⟨Sub.cons' rfl (congrArg Value.bool (Option.some.inj hm)) (Sub.skip rfl (Sub.skip rfl (Sub.refl _))), fun _ s => s⟩
      · skip
        replace hm := ite_f hc4 e4
        refine WL.idle (Idle.no rfl rfl rfl hc4) rfl rfl ?_
        refine WL.quiet (Runs.free rfl) rfl rfl (OV.quiet (ov_pick_false rfl (guard_eq rfl hc4) rfl)) ?_
        exact WL.nil ⟨Sub.cons' rfl (congrArg Value.bool (Option.some.inj hm)) (Sub.skip rfl (Sub.skip rfl (Sub.refl _))), fun _ s => s⟩
    refine WL.quiet (Runs.free rfl) rfl rfl (OV.quiet (ov_assign rfl rfl)) ?_
    refine WL.nil ?_
    refine then_normal ?_
    refine WP.ret ?_
    obtain rfl := Option.some.inj hm
    refine retQ_ret Tryd.results10 (Res.tmp rfl Res.nil) rfl (fun w' s => ⟨s.below, ?_⟩)
    exact rfl

end Go.Proofs.YtllhdlnnlckceaaDoor.W
