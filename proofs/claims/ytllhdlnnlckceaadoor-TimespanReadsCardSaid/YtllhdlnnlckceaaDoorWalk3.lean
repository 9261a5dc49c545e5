/- The walks. Written by our own program gen.py; Lean checks it. -/
import Derived.Test.YtllhdlnnlckceaaDoorPlain
import Derived.Test.YtllhdlnnlckceaaDoorEqs
import Derived.Test.YtllhdlnnlckceaaDoorProg
import Derived.Test.YtllhdlnnlckceaaDoorStdWalk0
import Derived.Test.YtllhdlnnlckceaaDoorTrim
import Derived.Test.YtllhdlnnlckceaaDoorWalk2
set_option linter.unusedVariables false
set_option maxRecDepth 100000
namespace Go.Proofs.YtllhdlnnlckceaaDoor.W
open Go Go.RowKit
theorem ref03_Scale_con (p_a : Span) (p_k : Int) (w : World) (H : Heap) (hH : Le H (hp w)) (hG : Glob H) (r : (Span × Int)) (hm : ref03_Scale p_a p_k = some r) :
    Con Tryd.prog 37 [(.agg #[(.int .i64 p_a.low), (.int .i64 p_a.high)]), (.int .i64 p_k)] w H (fun v _ => v = (.tuple #[(.agg #[(.int .i64 r.1.low), (.int .i64 r.1.high)]), (.int .i64 r.2)])) := by
  unfold ref03_Scale at hm
  refine con_of hH Tryd.func37 rfl 32 Tryd.ntmps37 rfl ?_
  refine WP.seq ?_
  refine WP.region ?_
  refine WL.step (Runs.free rfl) rfl rfl (os_box (cs := [(.int .i64 p_a.low), (.int .i64 p_a.high)]) rfl rfl rfl (fun b1 => ?_))
  refine WL.step (Runs.free rfl) rfl rfl (os_alloc (cs := [(.int .i64 0), (.int .i64 0)]) Tryd.zeroValue23 rfl rfl (fun b2 => ?_))
  refine WL.quiet (Runs.free rfl) rfl rfl (OV.quiet (ov_assign rfl rfl)) ?_
  refine WL.nil ?_
  refine then_normal ?_
  refine WP.seq ?_
  refine WP.seq ?_
  refine WP.region ?_
  refine WL.quiet (Runs.free rfl) rfl rfl (OV.quiet (ov_load_whole (i := 1) Tryd.isAgg23 Tryd.sizeOf23 rfl rfl rfl rfl)) ?_
  obtain ⟨r1, e1, hm⟩ := bind_some hm
  refine WL.quiet (Runs.free rfl) rfl rfl (oq_con (r := (.int .i64 r1)) Tryd.call21 rfl rfl (fun w' s => ⟨_, (ref03_Check_con p_a  w' H s.hold hG r1 e1)⟩)) ?_
  refine WL.quiet (Runs.free rfl) rfl rfl (OV.quiet (ov_assign rfl rfl)) ?_
  refine WL.nil ?_
  refine then_normal ?_
  refine WP.seq ?_
  refine WP.region ?_
  refine WL.quiet (Runs.free rfl) rfl rfl (OV.quiet (ov_move rfl rfl)) ?_
  refine WL.quiet (Runs.free rfl) rfl rfl (OV.quiet (ov_neq rfl rfl rfl)) ?_
  refine WL.nil ?_
  refine then_normal ?_
  refine WP.cond rfl (fun hc1 => ?_) (fun hc1 => ?_)
  · replace hm := ite_t hc1 hm
    refine WP.seq ?_
    refine WP.region ?_
    refine WL.quiet (Runs.free rfl) rfl rfl (OV.quiet (ov_build (r := (.agg #[(.int .i64 0), (.int .i64 0)])) rfl rfl (fun _ => by kernel_rfl))) ?_
    refine WL.quiet (Runs.free rfl) rfl rfl (OV.quiet (ov_move rfl rfl)) ?_
    refine WL.step0 (Runs.free rfl) rfl (os_store (i := 0) (vs := [(.int .i64 0), (.int .i64 0)]) (cs' := [(.int .i64 0), (.int .i64 0)]) Tryd.sizeOf23 rfl rfl rfl rfl rfl rfl rfl rfl rfl ?_)
    refine WL.quiet (Runs.free rfl) rfl rfl (OV.quiet (ov_assign rfl rfl)) ?_
    refine WL.nil ?_
    refine then_normal ?_
    refine WP.ret ?_
    refine then_ret ?_
    obtain rfl := Option.some.inj hm
    refine retQ_ret Tryd.results37 (Res.cell rfl (box_loads (i := 0) Tryd.isAgg23 Tryd.sizeOf23 rfl rfl) (Res.tmp rfl Res.nil)) rfl (fun w' s => ⟨s.below, ?_⟩)
    exact rfl
  · replace hm := ite_f hc1 hm
    refine WP.skip ?_
    refine then_normal ?_
    refine WP.seq ?_
    refine WP.seq ?_
    refine WP.region ?_
    refine WL.quiet (Runs.free rfl) rfl rfl (OV.quiet (ov_move rfl rfl)) ?_
    refine WL.quiet (Runs.free rfl) rfl rfl (OV.quiet (ov_lss rfl rfl rfl)) ?_
    refine WL.quiet (Runs.free rfl) rfl rfl (OV.quiet (ov_move rfl rfl)) ?_
    refine WL.cut_bool 3 18 (x := ((decide (p_k < 0)) || (decide (p_k > 1048576)))) ?_ ?_
    · rcases Bool.eq_false_or_eq_true (decide (p_k < 0)) with hc2 | hc2
      · skip
        refine WL.idle (Idle.no rfl rfl rfl hc2) rfl rfl ?_
        refine WL.idle (Idle.no rfl rfl rfl hc2) rfl rfl ?_
        refine WL.quiet (Runs.free rfl) rfl rfl (OV.quiet (ov_pick_true rfl (guard_eq rfl hc2) rfl)) ?_
        exact WL.nil ⟨Sub.cons' rfl (congrArg Value.bool (by rw [hc2]; rfl)) (Sub.skip rfl (Sub.skip rfl (Sub.skip rfl (Sub.refl _)))), fun _ s => s⟩
      · skip
        refine WL.quiet (Runs.yes rfl rfl rfl hc2) rfl rfl (OV.quiet (ov_move rfl rfl)) ?_
        refine WL.quiet (Runs.yes rfl rfl rfl hc2) rfl rfl (OV.quiet (ov_gtr rfl rfl rfl)) ?_
        refine WL.quiet (Runs.free rfl) rfl rfl (OV.quiet (ov_pick_false rfl (guard_eq rfl hc2) rfl)) ?_
        exact WL.nil ⟨Sub.cons' rfl (congrArg Value.bool (by rw [hc2]; rfl)) (Sub.skip rfl (Sub.skip rfl (Sub.skip rfl (Sub.refl _)))), fun _ s => s⟩
    refine WL.nil ?_
    refine then_normal ?_
    refine WP.cond rfl (fun hc3 => ?_) (fun hc3 => ?_)
    · replace hm := ite_t hc3 hm
      refine WP.seq ?_
      refine WP.region ?_
      refine WL.quiet (Runs.free rfl) rfl rfl (OV.quiet (ov_build (r := (.agg #[(.int .i64 0), (.int .i64 0)])) rfl rfl (fun _ => by kernel_rfl))) ?_
      refine WL.step0 (Runs.free rfl) rfl (os_store (i := 0) (vs := [(.int .i64 0), (.int .i64 0)]) (cs' := [(.int .i64 0), (.int .i64 0)]) Tryd.sizeOf23 rfl rfl rfl rfl rfl rfl rfl rfl rfl ?_)
      refine WL.quiet (Runs.free rfl) rfl rfl (OV.quiet (ov_assign rfl rfl)) ?_
      refine WL.nil ?_
      refine then_normal ?_
      refine WP.ret ?_
      refine then_ret ?_
      obtain rfl := Option.some.inj hm
      refine retQ_ret Tryd.results37 (Res.cell rfl (box_loads (i := 0) Tryd.isAgg23 Tryd.sizeOf23 rfl rfl) (Res.tmp rfl Res.nil)) rfl (fun w' s => ⟨s.below, ?_⟩)
      exact rfl
    · replace hm := ite_f hc3 hm
      refine WP.skip ?_
      refine then_normal ?_
      refine WP.seq ?_
      refine WP.region ?_
      refine WL.quiet (Runs.free rfl) rfl rfl (OV.quiet (ov_move rfl rfl)) ?_
      refine WL.quiet (Runs.free rfl) rfl rfl (OV.quiet (ov_fieldAddr Tryd.underlying23 rfl rfl rfl Tryd.sizeOf3 rfl rfl)) ?_
      refine WL.quiet (Runs.free rfl) rfl rfl (OV.quiet (ov_load_box (i := 1) Tryd.isAgg3 rfl rfl rfl rfl)) ?_
      refine WL.quiet (Runs.free rfl) rfl rfl (OV.quiet (ov_mul rfl rfl rfl)) ?_
      refine WL.quiet (Runs.free rfl) rfl rfl (OV.quiet (ov_move rfl rfl)) ?_
      refine WL.quiet (Runs.free rfl) rfl rfl (OV.quiet (ov_fieldAddr Tryd.underlying23 rfl rfl rfl Tryd.sizeOf3 rfl rfl)) ?_
      refine WL.quiet (Runs.free rfl) rfl rfl (OV.quiet (ov_load_box (i := 1) Tryd.isAgg3 rfl rfl rfl rfl)) ?_
      refine WL.quiet (Runs.free rfl) rfl rfl (OV.quiet (ov_mul rfl rfl rfl)) ?_
      refine WL.quiet (Runs.free rfl) rfl rfl (OV.quiet (ov_build (r := (.agg #[(.int .i64 (IntKind.wrap .i64 (p_k * p_a.low))), (.int .i64 (IntKind.wrap .i64 (p_k * p_a.high)))])) rfl rfl (fun _ => by kernel_rfl))) ?_
      obtain ⟨r2, e2, hm⟩ := bind_some hm
      refine WL.quiet (Runs.free rfl) rfl rfl (oq_con (r := (.tuple #[(.agg #[(.int .i64 r2.1.low), (.int .i64 r2.1.high)]), (.int .i64 r2.2)])) Tryd.call56 rfl rfl (fun w' s => ⟨_, (ref03_limited_con (Span.mk (IntKind.wrap .i64 (p_k * p_a.low)) (IntKind.wrap .i64 (p_k * p_a.high)))  w' H s.hold hG r2 e2)⟩)) ?_
      refine WL.quiet (Runs.free rfl) rfl rfl (OV.quiet (ov_extract rfl rfl rfl)) ?_
      refine WL.quiet (Runs.free rfl) rfl rfl (OV.quiet (ov_extract rfl rfl rfl)) ?_
      refine WL.step0 (Runs.free rfl) rfl (os_store (i := 0) (vs := [(.int .i64 r2.1.low), (.int .i64 r2.1.high)]) (cs' := [(.int .i64 r2.1.low), (.int .i64 r2.1.high)]) Tryd.sizeOf23 rfl rfl rfl rfl rfl rfl rfl rfl rfl ?_)
      refine WL.quiet (Runs.free rfl) rfl rfl (OV.quiet (ov_assign rfl rfl)) ?_
      refine WL.nil ?_
      refine then_normal ?_
      refine WP.ret ?_
      obtain rfl := Option.some.inj hm
      refine retQ_ret Tryd.results37 (Res.cell rfl (box_loads (i := 0) Tryd.isAgg23 Tryd.sizeOf23 rfl rfl) (Res.tmp rfl Res.nil)) rfl (fun w' s => ⟨s.below, ?_⟩)
      exact rfl

theorem timespan_Sum_con (p_l : (List Span)) (ao1 : Option Addr) (cap1 : Nat) (w : World) (H : Heap) (hH : Le H (hp w)) (h1 : SL H encSpan ao1 p_l) (hc1 : p_l.length ≤ cap1) (hG : Glob H) (r : (Span × Int)) (hm : timespan_Sum p_l = some r) :
    Con Tryd.prog 38 [(.slice ao1 p_l.length cap1)] w H (fun v _ => v = (.tuple #[(.agg #[(.int .i64 r.1.low), (.int .i64 r.1.high)]), (.int .i64 r.2)])) := by
  unfold timespan_Sum at hm
  refine con_of hH Tryd.func38 rfl 42 Tryd.ntmps38 rfl ?_
  refine WP.seq ?_
  refine WP.region ?_
  refine WL.step (Runs.free rfl) rfl rfl (os_alloc (cs := [(.int .i64 0), (.int .i64 0)]) Tryd.zeroValue23 rfl rfl (fun b1 => ?_))
  refine WL.quiet (Runs.free rfl) rfl rfl (OV.quiet (ov_assign rfl rfl)) ?_
  refine WL.nil ?_
  refine then_normal ?_
  refine WP.seq ?_
  refine WP.seq ?_
  refine WP.region ?_
  refine WL.quiet (Runs.free rfl) rfl rfl (OV.quiet (ov_move rfl rfl)) ?_
  refine WL.quiet (Runs.free rfl) rfl rfl (OV.quiet (ov_len_slice Tryd.underlying61 rfl rfl)) ?_
  refine WL.quiet (Runs.free rfl) rfl rfl (OV.quiet (ov_gtr rfl rfl rfl)) ?_
  refine WL.nil ?_
  refine then_normal ?_
  refine WP.cond rfl (fun hc2 => ?_) (fun hc2 => ?_)
  · replace hm := ite_t hc2 hm
    refine WP.seq ?_
    refine WP.region ?_
    refine WL.quiet (Runs.free rfl) rfl rfl (OV.quiet (ov_build (r := (.agg #[(.int .i64 0), (.int .i64 0)])) rfl rfl (fun _ => by kernel_rfl))) ?_
    refine WL.step0 (Runs.free rfl) rfl (os_store (i := 0) (vs := [(.int .i64 0), (.int .i64 0)]) (cs' := [(.int .i64 0), (.int .i64 0)]) Tryd.sizeOf23 rfl rfl rfl rfl rfl rfl rfl rfl rfl ?_)
    refine WL.quiet (Runs.free rfl) rfl rfl (OV.quiet (ov_assign rfl rfl)) ?_
    refine WL.nil ?_
    refine then_normal ?_
    refine WP.ret ?_
    refine then_ret ?_
    obtain rfl := Option.some.inj hm
    refine retQ_ret Tryd.results38 (Res.cell rfl (box_loads (i := 0) Tryd.isAgg23 Tryd.sizeOf23 rfl rfl) (Res.tmp rfl Res.nil)) rfl (fun w' s => ⟨s.below, ?_⟩)
    exact rfl
  · replace hm := ite_f hc2 hm
    refine WP.skip ?_
    refine then_normal ?_
    refine WP.seq ?_
    refine WP.seq ?_
    refine WP.region ?_
    refine WL.quiet (Runs.free rfl) rfl rfl (OV.quiet (ov_move rfl rfl)) ?_
    obtain ⟨r1, e1, hm⟩ := bind_some hm
    refine WL.quiet (Runs.free rfl) rfl rfl (oq_con (r := (.int .i64 r1)) Tryd.call54 rfl rfl (fun w' s => ⟨_, (timespan_checks_con p_l ao1 cap1  w' H s.hold h1 hc1 hG r1 e1)⟩)) ?_
    refine WL.quiet (Runs.free rfl) rfl rfl (OV.quiet (ov_assign rfl rfl)) ?_
    refine WL.nil ?_
    refine then_normal ?_
    refine WP.seq ?_
    refine WP.region ?_
    refine WL.quiet (Runs.free rfl) rfl rfl (OV.quiet (ov_move rfl rfl)) ?_
    refine WL.quiet (Runs.free rfl) rfl rfl (OV.quiet (ov_neq rfl rfl rfl)) ?_
    refine WL.nil ?_
    refine then_normal ?_
    refine WP.cond rfl (fun hc3 => ?_) (fun hc3 => ?_)
    · replace hm := ite_t hc3 hm
      refine WP.seq ?_
      refine WP.region ?_
      refine WL.quiet (Runs.free rfl) rfl rfl (OV.quiet (ov_build (r := (.agg #[(.int .i64 0), (.int .i64 0)])) rfl rfl (fun _ => by kernel_rfl))) ?_
      refine WL.quiet (Runs.free rfl) rfl rfl (OV.quiet (ov_move rfl rfl)) ?_
      refine WL.step0 (Runs.free rfl) rfl (os_store (i := 0) (vs := [(.int .i64 0), (.int .i64 0)]) (cs' := [(.int .i64 0), (.int .i64 0)]) Tryd.sizeOf23 rfl rfl rfl rfl rfl rfl rfl rfl rfl ?_)
      refine WL.quiet (Runs.free rfl) rfl rfl (OV.quiet (ov_assign rfl rfl)) ?_
      refine WL.nil ?_
      refine then_normal ?_
      refine WP.ret ?_
      refine then_ret ?_
      obtain rfl := Option.some.inj hm
      refine retQ_ret Tryd.results38 (Res.cell rfl (box_loads (i := 0) Tryd.isAgg23 Tryd.sizeOf23 rfl rfl) (Res.tmp rfl Res.nil)) rfl (fun w' s => ⟨s.below, ?_⟩)
      exact rfl
    · replace hm := ite_f hc3 hm
      refine WP.skip ?_
      refine then_normal ?_
      refine WP.seq ?_
      refine WP.region ?_
      refine WL.step (Runs.free rfl) rfl rfl (os_alloc (cs := [(.int .i64 0), (.int .i64 0)]) Tryd.zeroValue23 rfl rfl (fun b2 => ?_))
      refine WL.nil ?_
      refine then_normal ?_
      obtain ⟨k1, hk1, hm⟩ := joinK_some hm
      refine WP.seq_join (fun g' S' => ∃ (i4 : Int) (i5 : Int), Sub [(2, (pB b1 0)), (5, (pB b2 0))] g' ∧ (∀ w', S' w' → St w H [.blk b2 23 [(.int .i64 i4), (.int .i64 i5)], .blk b1 23 [(.int .i64 0), (.int .i64 0)]] H w') ∧ k1 i4 i5 = some r) ?_ ?_
      · skip
        refine WP.seq ?_
        refine WP.region ?_
        refine WL.quiet (Runs.free rfl) rfl rfl (OV.quiet (ov_move rfl rfl)) ?_
        refine WL.quiet (Runs.free rfl) rfl rfl (OV.quiet (ov_len_slice Tryd.underlying61 rfl rfl)) ?_
        refine WL.quiet (Runs.free rfl) rfl rfl (OV.quiet (ov_move rfl rfl)) ?_
        refine WL.nil ?_
        refine then_normal ?_
        refine WP.block ?_
        refine WP.loop (fun m1 g' S' => ∃ (i1 : Int) (i2 : Int) (i3 : Int), Sub [(2, (pB b1 0)), (5, (pB b2 0)), (18, (.slice ao1 p_l.length cap1)), (19, (.int .i64 (p_l.length : Int))), (20, (.int .i64 i1))] g' ∧ (∀ w', S' w' → St w H [.blk b2 23 [(.int .i64 i2), (.int .i64 i3)], .blk b1 23 [(.int .i64 0), (.int .i64 0)]] H w') ∧ timespan_Sum_loop1 p_l k1 m1 i1 i2 i3 = some r) ((Int.toNat ((p_l.length : Int) - 0) + 1)) ⟨0, 0, 0, (Sub.cons rfl (Sub.cons rfl (Sub.cons rfl (Sub.cons rfl (Sub.cons rfl (Sub.nil _)))))), fun w' s => s, hm⟩ ?_ ?_
        · rintro g' S' ⟨_, _, _, _, _, hm⟩
          exact none_some hm
        · rintro m1 g' S' ⟨i1, i2, i3, hsub1, hS1, hm⟩
          refine WP.sub hsub1 (WP.weaken hS1 ?_)
          rw [timespan_Sum_loop1] at hm
          refine WP.seq ?_
          refine WP.region ?_
          refine WL.quiet (Runs.free rfl) rfl rfl (OV.quiet (ov_lss rfl rfl rfl)) ?_
          refine WL.nil ?_
          refine then_normal ?_
          refine WP.seq ?_
          refine WP.cond rfl (fun hc4 => ?_) (fun hc4 => ?_)
          · replace hm := ite_t hc4 hm
            refine WP.skip ?_
            refine then_normal ?_
            refine WP.seq ?_
            refine WP.block ?_
            refine WP.seq ?_
            refine WP.region ?_
            obtain ⟨x1, e2, hm⟩ := bind_some hm
            obtain ⟨h2, h3, h4, cs1, h5, h6⟩ := h1.get e2 (by decide)
            obtain rfl : cs1 = [(.int .i64 x1.low), (.int .i64 x1.high)] := h5
            refine WL.quiet (Runs.free rfl) rfl rfl (OV.quiet (ov_indexAddr Tryd.underlying61 Tryd.sizeOf23 rfl rfl rfl h2 h3 h4)) ?_
            refine WL.quiet (Runs.free rfl) rfl rfl (OV.quiet (ov_load_elems (vs := [(.int .i64 x1.low), (.int .i64 x1.high)]) Tryd.isAgg23 Tryd.sizeOf23 rfl rfl rfl h6 h4)) ?_
            refine WL.step (Runs.free rfl) rfl rfl (os_alloc (cs := [(.int .i64 0), (.int .i64 0)]) Tryd.zeroValue23 rfl rfl (fun b3 => ?_))
            refine WL.step0 (Runs.free rfl) rfl (os_store (i := 0) (vs := [(.int .i64 x1.low), (.int .i64 x1.high)]) (cs' := [(.int .i64 x1.low), (.int .i64 x1.high)]) Tryd.sizeOf23 rfl rfl rfl rfl rfl rfl rfl rfl rfl ?_)
            refine WL.nil ?_
            refine then_normal ?_
            refine WP.seq ?_
            refine WP.region ?_
            refine WL.quiet (Runs.free rfl) rfl rfl (OV.quiet (ov_fieldAddr Tryd.underlying23 rfl rfl rfl Tryd.sizeOf3 rfl rfl)) ?_
            refine WL.quiet (Runs.free rfl) rfl rfl (OV.quiet (ov_load_box (i := 1) Tryd.isAgg3 rfl rfl rfl rfl)) ?_
            refine WL.quiet (Runs.free rfl) rfl rfl (OV.quiet (ov_fieldAddr Tryd.underlying23 rfl rfl rfl Tryd.sizeOf3 rfl rfl)) ?_
            refine WL.quiet (Runs.free rfl) rfl rfl (OV.quiet (ov_load_box (i := 0) Tryd.isAgg3 rfl rfl rfl rfl)) ?_
            refine WL.quiet (Runs.free rfl) rfl rfl (OV.quiet (ov_add rfl rfl rfl)) ?_
            refine WL.quiet (Runs.free rfl) rfl rfl (OV.quiet (ov_fieldAddr Tryd.underlying23 rfl rfl rfl Tryd.sizeOf3 rfl rfl)) ?_
            refine WL.step0 (Runs.free rfl) rfl (os_store (i := 1) (vs := [(.int .i64 (IntKind.wrap .i64 (i2 + x1.low)))]) (cs' := [(.int .i64 (IntKind.wrap .i64 (i2 + x1.low))), (.int .i64 i3)]) Tryd.sizeOf3 rfl rfl rfl rfl rfl rfl rfl rfl rfl ?_)
            refine WL.nil ?_
            refine then_normal ?_
            refine WP.region ?_
            refine WL.quiet (Runs.free rfl) rfl rfl (OV.quiet (ov_fieldAddr Tryd.underlying23 rfl rfl rfl Tryd.sizeOf3 rfl rfl)) ?_
            refine WL.quiet (Runs.free rfl) rfl rfl (OV.quiet (ov_load_box (i := 1) Tryd.isAgg3 rfl rfl rfl rfl)) ?_
            refine WL.quiet (Runs.free rfl) rfl rfl (OV.quiet (ov_fieldAddr Tryd.underlying23 rfl rfl rfl Tryd.sizeOf3 rfl rfl)) ?_
            refine WL.quiet (Runs.free rfl) rfl rfl (OV.quiet (ov_load_box (i := 0) Tryd.isAgg3 rfl rfl rfl rfl)) ?_
            refine WL.quiet (Runs.free rfl) rfl rfl (OV.quiet (ov_add rfl rfl rfl)) ?_
            refine WL.quiet (Runs.free rfl) rfl rfl (OV.quiet (ov_fieldAddr Tryd.underlying23 rfl rfl rfl Tryd.sizeOf3 rfl rfl)) ?_
            refine WL.step0 (Runs.free rfl) rfl (os_store (i := 1) (vs := [(.int .i64 (IntKind.wrap .i64 (i3 + x1.high)))]) (cs' := [(.int .i64 (IntKind.wrap .i64 (i2 + x1.low))), (.int .i64 (IntKind.wrap .i64 (i3 + x1.high)))]) Tryd.sizeOf3 rfl rfl rfl rfl rfl rfl rfl rfl rfl ?_)
            refine WL.nil ?_
            refine block_normal ?_
            refine then_normal ?_
            refine WP.region ?_
            refine WL.quiet (Runs.free rfl) rfl rfl (OV.quiet (ov_add rfl rfl rfl)) ?_
            refine WL.quiet (Runs.free rfl) rfl rfl (OV.quiet (ov_move rfl rfl)) ?_
            refine WL.nil ?_
            refine then_normal ?_
            exact ⟨(IntKind.wrap .i64 (i1 + 1)), (IntKind.wrap .i64 (i2 + x1.low)), (IntKind.wrap .i64 (i3 + x1.high)), (Sub.cons rfl (Sub.cons rfl (Sub.cons rfl (Sub.cons rfl (Sub.cons rfl (Sub.nil _)))))), fun w' s => (s.select [1, 2] (by decide) rfl), hm⟩
          · replace hm := ite_f hc4 hm
            refine WP.exit ?_
            refine then_exit ?_
            refine then_exit ?_
            refine block_here ?_
            refine then_normal ?_
            exact ⟨i2, i3, (Sub.cons rfl (Sub.cons rfl (Sub.nil _))), fun w' s => s, hm⟩
      · rintro g' S' ⟨i4, i5, hsub2, hS2, hm⟩
        refine WP.sub hsub2 (WP.weaken hS2 ?_)
        replace hm := (congrFun (congrFun hk1 i4) i5).symm.trans hm
        refine WP.seq ?_
        refine WP.seq ?_
        refine WP.region ?_
        refine WL.quiet (Runs.free rfl) rfl rfl (OV.quiet (ov_fieldAddr Tryd.underlying23 rfl rfl rfl Tryd.sizeOf3 rfl rfl)) ?_
        refine WL.quiet (Runs.free rfl) rfl rfl (OV.quiet (ov_load_box (i := 0) Tryd.isAgg3 rfl rfl rfl rfl)) ?_
        refine WL.quiet (Runs.free rfl) rfl rfl (OV.quiet (ov_gtr rfl rfl rfl)) ?_
        refine WL.nil ?_
        refine then_normal ?_
        refine WP.cond rfl (fun hc5 => ?_) (fun hc5 => ?_)
        · replace hm := ite_t hc5 hm
          refine WP.seq ?_
          refine WP.region ?_
          refine WL.quiet (Runs.free rfl) rfl rfl (OV.quiet (ov_build (r := (.agg #[(.int .i64 0), (.int .i64 0)])) rfl rfl (fun _ => by kernel_rfl))) ?_
          refine WL.step0 (Runs.free rfl) rfl (os_store (i := 1) (vs := [(.int .i64 0), (.int .i64 0)]) (cs' := [(.int .i64 0), (.int .i64 0)]) Tryd.sizeOf23 rfl rfl rfl rfl rfl rfl rfl rfl rfl ?_)
          refine WL.quiet (Runs.free rfl) rfl rfl (OV.quiet (ov_assign rfl rfl)) ?_
          refine WL.nil ?_
          refine then_normal ?_
          refine WP.ret ?_
          refine then_ret ?_
          obtain rfl := Option.some.inj hm
          refine retQ_ret Tryd.results38 (Res.cell rfl (box_loads (i := 1) Tryd.isAgg23 Tryd.sizeOf23 rfl rfl) (Res.tmp rfl Res.nil)) rfl (fun w' s => ⟨s.below, ?_⟩)
          exact rfl
        · replace hm := ite_f hc5 hm
          refine WP.skip ?_
          refine then_normal ?_
          refine WP.seq ?_
          refine WP.region ?_
          refine WL.quiet (Runs.free rfl) rfl rfl (OV.quiet (ov_load_whole (i := 0) Tryd.isAgg23 Tryd.sizeOf23 rfl rfl rfl rfl)) ?_
          refine WL.step0 (Runs.free rfl) rfl (os_store (i := 1) (vs := [(.int .i64 i4), (.int .i64 i5)]) (cs' := [(.int .i64 i4), (.int .i64 i5)]) Tryd.sizeOf23 rfl rfl rfl rfl rfl rfl rfl rfl rfl ?_)
          refine WL.quiet (Runs.free rfl) rfl rfl (OV.quiet (ov_assign rfl rfl)) ?_
          refine WL.nil ?_
          refine then_normal ?_
          refine WP.ret ?_
          obtain rfl := Option.some.inj hm
          refine retQ_ret Tryd.results38 (Res.cell rfl (box_loads (i := 1) Tryd.isAgg23 Tryd.sizeOf23 rfl rfl) (Res.tmp rfl Res.nil)) rfl (fun w' s => ⟨s.below, ?_⟩)
          exact rfl

theorem ref03_Sum_con (p_l : (List Span)) (ao1 : Option Addr) (cap1 : Nat) (w : World) (H : Heap) (hH : Le H (hp w)) (h1 : SL H encSpan ao1 p_l) (hc1 : p_l.length ≤ cap1) (hG : Glob H) (r : (Span × Int)) (hm : ref03_Sum p_l = some r) :
    Con Tryd.prog 39 [(.slice ao1 p_l.length cap1)] w H (fun v _ => v = (.tuple #[(.agg #[(.int .i64 r.1.low), (.int .i64 r.1.high)]), (.int .i64 r.2)])) := by
  unfold ref03_Sum at hm
  refine con_of hH Tryd.func39 rfl 36 Tryd.ntmps39 rfl ?_
  refine WP.seq ?_
  refine WP.region ?_
  refine WL.step (Runs.free rfl) rfl rfl (os_alloc (cs := [(.int .i64 0), (.int .i64 0)]) Tryd.zeroValue23 rfl rfl (fun b1 => ?_))
  refine WL.quiet (Runs.free rfl) rfl rfl (OV.quiet (ov_assign rfl rfl)) ?_
  refine WL.nil ?_
  refine then_normal ?_
  refine WP.seq ?_
  refine WP.seq ?_
  refine WP.region ?_
  refine WL.quiet (Runs.free rfl) rfl rfl (OV.quiet (ov_move rfl rfl)) ?_
  refine WL.quiet (Runs.free rfl) rfl rfl (OV.quiet (ov_len_slice Tryd.underlying61 rfl rfl)) ?_
  refine WL.quiet (Runs.free rfl) rfl rfl (OV.quiet (ov_gtr rfl rfl rfl)) ?_
  refine WL.nil ?_
  refine then_normal ?_
  refine WP.cond rfl (fun hc2 => ?_) (fun hc2 => ?_)
  · replace hm := ite_t hc2 hm
    refine WP.seq ?_
    refine WP.region ?_
    refine WL.quiet (Runs.free rfl) rfl rfl (OV.quiet (ov_build (r := (.agg #[(.int .i64 0), (.int .i64 0)])) rfl rfl (fun _ => by kernel_rfl))) ?_
    refine WL.step0 (Runs.free rfl) rfl (os_store (i := 0) (vs := [(.int .i64 0), (.int .i64 0)]) (cs' := [(.int .i64 0), (.int .i64 0)]) Tryd.sizeOf23 rfl rfl rfl rfl rfl rfl rfl rfl rfl ?_)
    refine WL.quiet (Runs.free rfl) rfl rfl (OV.quiet (ov_assign rfl rfl)) ?_
    refine WL.nil ?_
    refine then_normal ?_
    refine WP.ret ?_
    refine then_ret ?_
    obtain rfl := Option.some.inj hm
    refine retQ_ret Tryd.results39 (Res.cell rfl (box_loads (i := 0) Tryd.isAgg23 Tryd.sizeOf23 rfl rfl) (Res.tmp rfl Res.nil)) rfl (fun w' s => ⟨s.below, ?_⟩)
    exact rfl
  · replace hm := ite_f hc2 hm
    refine WP.skip ?_
    refine then_normal ?_
    refine WP.seq ?_
    refine WP.region ?_
    refine WL.step (Runs.free rfl) rfl rfl (os_alloc (cs := [(.int .i64 0), (.int .i64 0)]) Tryd.zeroValue23 rfl rfl (fun b2 => ?_))
    refine WL.nil ?_
    refine then_normal ?_
    obtain ⟨k1, hk1, hm⟩ := joinK_some hm
    refine WP.seq_join (fun g' S' => ∃ (i4 : Int) (i5 : Int), Sub [(2, (pB b1 0)), (4, (pB b2 0))] g' ∧ (∀ w', S' w' → St w H [.blk b2 23 [(.int .i64 i4), (.int .i64 i5)], .blk b1 23 [(.int .i64 0), (.int .i64 0)]] H w') ∧ k1 i4 i5 = some r) ?_ ?_
    · skip
      refine WP.seq ?_
      refine WP.region ?_
      refine WL.quiet (Runs.free rfl) rfl rfl (OV.quiet (ov_assign rfl rfl)) ?_
      refine WL.nil ?_
      refine then_normal ?_
      refine WP.block ?_
      refine WP.loop (fun m1 g' S' => ∃ (i1 : Int) (i2 : Int) (i3 : Int), Sub [(0, (.slice ao1 p_l.length cap1)), (2, (pB b1 0)), (4, (pB b2 0)), (5, (.int .i64 i1))] g' ∧ (∀ w', S' w' → St w H [.blk b2 23 [(.int .i64 i2), (.int .i64 i3)], .blk b1 23 [(.int .i64 0), (.int .i64 0)]] H w') ∧ ref03_Sum_loop1 p_l k1 m1 i1 i2 i3 = some r) ((Int.toNat ((p_l.length : Int) - 0) + 1)) ⟨0, 0, 0, (Sub.cons rfl (Sub.cons rfl (Sub.cons rfl (Sub.cons rfl (Sub.nil _))))), fun w' s => s, hm⟩ ?_ ?_
      · rintro g' S' ⟨_, _, _, _, _, hm⟩
        exact none_some hm
      · rintro m1 g' S' ⟨i1, i2, i3, hsub1, hS1, hm⟩
        refine WP.sub hsub1 (WP.weaken hS1 ?_)
        rw [ref03_Sum_loop1] at hm
        refine WP.seq ?_
        refine WP.seq ?_
        refine WP.region ?_
        refine WL.quiet (Runs.free rfl) rfl rfl (OV.quiet (ov_move rfl rfl)) ?_
        refine WL.quiet (Runs.free rfl) rfl rfl (OV.quiet (ov_move rfl rfl)) ?_
        refine WL.quiet (Runs.free rfl) rfl rfl (OV.quiet (ov_len_slice Tryd.underlying61 rfl rfl)) ?_
        refine WL.quiet (Runs.free rfl) rfl rfl (OV.quiet (ov_lss rfl rfl rfl)) ?_
        refine WL.nil ?_
        refine then_normal ?_
        refine WP.cond rfl (fun hc3 => ?_) (fun hc3 => ?_)
        · replace hm := ite_t hc3 hm
          refine WP.skip ?_
          refine then_normal ?_
          refine WP.seq ?_
          refine WP.block ?_
          refine WP.seq ?_
          refine WP.seq ?_
          refine WP.region ?_
          refine WL.quiet (Runs.free rfl) rfl rfl (OV.quiet (ov_move rfl rfl)) ?_
          refine WL.quiet (Runs.free rfl) rfl rfl (OV.quiet (ov_move rfl rfl)) ?_
          obtain ⟨x1, e1, hm⟩ := bind_some hm
          obtain ⟨h2, h3, h4, cs1, h5, h6⟩ := h1.get e1 (by decide)
          obtain rfl : cs1 = [(.int .i64 x1.low), (.int .i64 x1.high)] := h5
          refine WL.quiet (Runs.free rfl) rfl rfl (OV.quiet (ov_indexAddr Tryd.underlying61 Tryd.sizeOf23 rfl rfl rfl h2 h3 h4)) ?_
          refine WL.quiet (Runs.free rfl) rfl rfl (OV.quiet (ov_load_elems (vs := [(.int .i64 x1.low), (.int .i64 x1.high)]) Tryd.isAgg23 Tryd.sizeOf23 rfl rfl rfl h6 h4)) ?_
          obtain ⟨r1, e2, hm⟩ := bind_some hm
          refine WL.quiet (Runs.free rfl) rfl rfl (oq_con (r := (.int .i64 r1)) Tryd.call21 rfl rfl (fun w' s => ⟨_, (ref03_Check_con x1  w' H s.hold hG r1 e2)⟩)) ?_
          refine WL.quiet (Runs.free rfl) rfl rfl (OV.quiet (ov_assign rfl rfl)) ?_
          refine WL.nil ?_
          refine then_normal ?_
          refine WP.seq ?_
          refine WP.region ?_
          refine WL.quiet (Runs.free rfl) rfl rfl (OV.quiet (ov_move rfl rfl)) ?_
          refine WL.quiet (Runs.free rfl) rfl rfl (OV.quiet (ov_neq rfl rfl rfl)) ?_
          refine WL.nil ?_
          refine then_normal ?_
          refine WP.cond rfl (fun hc4 => ?_) (fun hc4 => ?_)
          · replace hm := ite_t hc4 hm
            refine WP.seq ?_
            refine WP.region ?_
            refine WL.quiet (Runs.free rfl) rfl rfl (OV.quiet (ov_build (r := (.agg #[(.int .i64 0), (.int .i64 0)])) rfl rfl (fun _ => by kernel_rfl))) ?_
            refine WL.quiet (Runs.free rfl) rfl rfl (OV.quiet (ov_move rfl rfl)) ?_
            refine WL.step0 (Runs.free rfl) rfl (os_store (i := 1) (vs := [(.int .i64 0), (.int .i64 0)]) (cs' := [(.int .i64 0), (.int .i64 0)]) Tryd.sizeOf23 rfl rfl rfl rfl rfl rfl rfl rfl rfl ?_)
            refine WL.quiet (Runs.free rfl) rfl rfl (OV.quiet (ov_assign rfl rfl)) ?_
            refine WL.nil ?_
            refine then_normal ?_
            refine WP.ret ?_
            refine then_ret ?_
            refine block_ret ?_
            refine then_ret ?_
            refine then_ret ?_
            refine block_ret ?_
            refine then_ret ?_
            obtain rfl := Option.some.inj hm
            refine retQ_ret Tryd.results39 (Res.cell rfl (box_loads (i := 1) Tryd.isAgg23 Tryd.sizeOf23 rfl rfl) (Res.tmp rfl Res.nil)) rfl (fun w' s => ⟨s.below, ?_⟩)
            exact rfl
          · replace hm := ite_f hc4 hm
            refine WP.skip ?_
            refine then_normal ?_
            refine WP.region_any (S₀ := St w H [.blk b1 23 [(.int .i64 0), (.int .i64 0)]] H) 7 rfl (by kernel_rfl) (fun w' s => (s.select [1] (by decide) rfl)) (fun _ s => s.drew) ?_
            refine AL.take (i := 1) rfl (by kernel_rfl) (by kernel_rfl) (by kernel_rfl) (Runs.free rfl) rfl rfl (ov_move rfl rfl) ?_
            refine AL.take (i := 2) rfl (by kernel_rfl) (by kernel_rfl) (by kernel_rfl) (Runs.free rfl) rfl rfl (ov_move rfl rfl) ?_
            obtain ⟨x2, e3, hm⟩ := bind_some hm
            obtain ⟨h7, h8, h9, cs2, h10, h11⟩ := h1.get e3 (by decide)
            obtain rfl : cs2 = [(.int .i64 x2.low), (.int .i64 x2.high)] := h10
            refine AL.take (i := 3) rfl (by kernel_rfl) (by kernel_rfl) (by kernel_rfl) (Runs.free rfl) rfl rfl (ov_indexAddr Tryd.underlying61 Tryd.sizeOf23 rfl rfl rfl h7 h8 h9) ?_
            refine AL.take (i := 4) rfl (by kernel_rfl) (by kernel_rfl) (by kernel_rfl) (Runs.free rfl) rfl rfl (ov_load_elems (vs := [(.int .i64 x2.low), (.int .i64 x2.high)]) Tryd.isAgg23 Tryd.sizeOf23 rfl rfl rfl h11 h9) ?_
            refine AL.any (rs := [0]) (by kernel_rfl) (by decide) ?_
            refine ALs.cons (i := 0) rfl (Runs.free rfl) rfl rfl ?_ ?_
            · skip
              refine OQ.step (OV.quiet (ov_load_whole (i := 0) Tryd.isAgg23 Tryd.sizeOf23 rfl rfl rfl rfl)) ?_
              refine ⟨fun w' s => (s.select [1] (by decide) rfl), ?_⟩
              refine AL.any (rs := [5]) (by kernel_rfl) (by decide) ?_
              refine ALs.cons (i := 5) rfl (Runs.free rfl) rfl rfl ?_ ?_
              · skip
                obtain ⟨r2, e4, hm⟩ := bind_some hm
                refine OQ.step (oq_con (r := (.agg #[(.int .i64 r2.low), (.int .i64 r2.high)])) Tryd.call57 rfl rfl (fun w' s => ⟨_, (ref03_Plus_con (Span.mk i2 i3) x2  w' H s.hold hG r2 e4)⟩)) ?_
                refine ⟨fun w' s => (s.select [1] (by decide) rfl), ?_⟩
                refine AL.any (rs := [6]) (by kernel_rfl) (by decide) ?_
                refine ALs.cons0 (i := 6) rfl (Runs.free rfl) rfl ?_ ?_
                · skip
                  refine os_store (i := 0) (vs := [(.int .i64 r2.low), (.int .i64 r2.high)]) (cs' := [(.int .i64 r2.low), (.int .i64 r2.high)]) Tryd.sizeOf23 rfl rfl rfl rfl rfl rfl rfl rfl rfl ?_
                  refine ⟨fun w' s => (s.select [1] (by decide) rfl), ?_⟩
                  refine AL.done (by kernel_rfl) ?_
                  refine block_normal ?_
                  refine then_normal ?_
                  refine WP.region ?_
                  refine WL.quiet (Runs.free rfl) rfl rfl (OV.quiet (ov_move rfl rfl)) ?_
                  refine WL.quiet (Runs.free rfl) rfl rfl (OV.quiet (ov_add rfl rfl rfl)) ?_
                  refine WL.quiet (Runs.free rfl) rfl rfl (OV.quiet (ov_assign rfl rfl)) ?_
                  refine WL.nil ?_
                  refine then_normal ?_
                  exact ⟨(IntKind.wrap .i64 (i1 + 1)), r2.low, r2.high, (Sub.cons rfl (Sub.cons rfl (Sub.cons rfl (Sub.cons rfl (Sub.nil _))))), fun w' s => s, hm⟩
                exact ALs.nil
              exact ALs.nil
            exact ALs.nil
        · replace hm := ite_f hc3 hm
          refine WP.exit ?_
          refine then_exit ?_
          refine then_exit ?_
          refine block_here ?_
          refine then_normal ?_
          exact ⟨i2, i3, (Sub.cons rfl (Sub.cons rfl (Sub.nil _))), fun w' s => s, hm⟩
    · rintro g' S' ⟨i4, i5, hsub2, hS2, hm⟩
      refine WP.sub hsub2 (WP.weaken hS2 ?_)
      replace hm := (congrFun (congrFun hk1 i4) i5).symm.trans hm
      refine WP.seq ?_
      refine WP.region ?_
      refine WL.quiet (Runs.free rfl) rfl rfl (OV.quiet (ov_load_whole (i := 0) Tryd.isAgg23 Tryd.sizeOf23 rfl rfl rfl rfl)) ?_
      obtain ⟨r3, e5, hm⟩ := bind_some hm
      refine WL.quiet (Runs.free rfl) rfl rfl (oq_con (r := (.tuple #[(.agg #[(.int .i64 r3.1.low), (.int .i64 r3.1.high)]), (.int .i64 r3.2)])) Tryd.call56 rfl rfl (fun w' s => ⟨_, (ref03_limited_con (Span.mk i4 i5)  w' H s.hold hG r3 e5)⟩)) ?_
      refine WL.quiet (Runs.free rfl) rfl rfl (OV.quiet (ov_extract rfl rfl rfl)) ?_
      refine WL.quiet (Runs.free rfl) rfl rfl (OV.quiet (ov_extract rfl rfl rfl)) ?_
      refine WL.step0 (Runs.free rfl) rfl (os_store (i := 1) (vs := [(.int .i64 r3.1.low), (.int .i64 r3.1.high)]) (cs' := [(.int .i64 r3.1.low), (.int .i64 r3.1.high)]) Tryd.sizeOf23 rfl rfl rfl rfl rfl rfl rfl rfl rfl ?_)
      refine WL.quiet (Runs.free rfl) rfl rfl (OV.quiet (ov_assign rfl rfl)) ?_
      refine WL.nil ?_
      refine then_normal ?_
      refine WP.ret ?_
      obtain rfl := Option.some.inj hm
      refine retQ_ret Tryd.results39 (Res.cell rfl (box_loads (i := 1) Tryd.isAgg23 Tryd.sizeOf23 rfl rfl) (Res.tmp rfl Res.nil)) rfl (fun w' s => ⟨s.below, ?_⟩)
      exact rfl

theorem law03_span_con (p_low : Int) (p_high : Int) (w : World) (H : Heap) (hH : Le H (hp w)) (hG : Glob H) (r : Span) (hm : law03_span p_low p_high = some r) :
    Con Tryd.prog 40 [(.int .i64 p_low), (.int .i64 p_high)] w H (fun v _ => v = (.agg #[(.int .i64 r.low), (.int .i64 r.high)])) := by
  unfold law03_span at hm
  refine con_of hH Tryd.func40 rfl 8 Tryd.ntmps40 rfl ?_
  refine WP.seq ?_
  refine WP.region ?_
  refine WL.step (Runs.free rfl) rfl rfl (os_alloc (cs := [(.int .i64 0), (.int .i64 0)]) Tryd.zeroValue23 rfl rfl (fun b1 => ?_))
  refine WL.nil ?_
  refine then_normal ?_
  refine WP.seq ?_
  refine WP.region ?_
  refine WL.quiet (Runs.free rfl) rfl rfl (OV.quiet (ov_move rfl rfl)) ?_
  refine WL.quiet (Runs.free rfl) rfl rfl (OV.quiet (ov_move rfl rfl)) ?_
  refine WL.quiet (Runs.free rfl) rfl rfl (OV.quiet (ov_build (r := (.agg #[(.int .i64 p_low), (.int .i64 p_high)])) rfl rfl (fun _ => by kernel_rfl))) ?_
  refine WL.step0 (Runs.free rfl) rfl (os_store (i := 0) (vs := [(.int .i64 p_low), (.int .i64 p_high)]) (cs' := [(.int .i64 p_low), (.int .i64 p_high)]) Tryd.sizeOf23 rfl rfl rfl rfl rfl rfl rfl rfl rfl ?_)
  refine WL.nil ?_
  refine then_normal ?_
  refine WP.ret ?_
  obtain rfl := Option.some.inj hm
  refine retQ_ret Tryd.results40 (Res.cell rfl (box_loads (i := 0) Tryd.isAgg23 Tryd.sizeOf23 rfl rfl) Res.nil) rfl (fun w' s => ⟨s.below, ?_⟩)
  exact rfl

theorem law03_awake_con  (w : World) (H : Heap) (hH : Le H (hp w)) (hG : Glob H) (r : Bool) (hm : law03_awake  = some r) :
    Con Tryd.prog 11 [] w H (fun v _ => v = (.bool r)) := by
  unfold law03_awake at hm
  refine con_of hH Tryd.func11 rfl 141 Tryd.ntmps11 rfl ?_
  refine WP.seq ?_
  refine WP.region ?_
  refine WL.quiet (Runs.free rfl) rfl rfl (OV.quiet (ov_assign rfl rfl)) ?_
  refine WL.nil ?_
  refine then_normal ?_
  refine WP.seq ?_
  refine WP.region ?_
  obtain ⟨r1, e1, hm⟩ := bind_some hm
  refine WL.quiet (Runs.free rfl) rfl rfl (oq_con (r := (.agg #[(.int .i64 r1.low), (.int .i64 r1.high)])) Tryd.call40 rfl rfl (fun w' s => ⟨_, (law03_span_con 10 20  w' H s.hold hG r1 e1)⟩)) ?_
  obtain ⟨r2, e2, hm⟩ := bind_some hm
  refine WL.quiet (Runs.free rfl) rfl rfl (oq_con (r := (.agg #[(.int .i64 r2.low), (.int .i64 r2.high)])) Tryd.call40 rfl rfl (fun w' s => ⟨_, (law03_span_con 5 30  w' H s.hold hG r2 e2)⟩)) ?_
  refine WL.step (Runs.free rfl) rfl rfl (os_alloc (cs := [(.int .i64 0), (.int .i64 0)]) Tryd.zeroValue23 rfl rfl (fun b1 => ?_))
  refine WL.step (Runs.free rfl) rfl rfl (os_alloc (cs := [(.int .i64 0), (.int .i64 0)]) Tryd.zeroValue23 rfl rfl (fun b2 => ?_))
  refine WL.step0 (Runs.free rfl) rfl (os_store (i := 1) (vs := [(.int .i64 r1.low), (.int .i64 r1.high)]) (cs' := [(.int .i64 r1.low), (.int .i64 r1.high)]) Tryd.sizeOf23 rfl rfl rfl rfl rfl rfl rfl rfl rfl ?_)
  refine WL.step0 (Runs.free rfl) rfl (os_store (i := 0) (vs := [(.int .i64 r2.low), (.int .i64 r2.high)]) (cs' := [(.int .i64 r2.low), (.int .i64 r2.high)]) Tryd.sizeOf23 rfl rfl rfl rfl rfl rfl rfl rfl rfl ?_)
  refine WL.nil ?_
  refine then_normal ?_
  refine WP.seq ?_
  refine WP.region ?_
  refine WL.quiet (Runs.free rfl) rfl rfl (OV.quiet (ov_load_whole (i := 1) Tryd.isAgg23 Tryd.sizeOf23 rfl rfl rfl rfl)) ?_
  refine WL.quiet (Runs.free rfl) rfl rfl (OV.quiet (ov_load_whole (i := 0) Tryd.isAgg23 Tryd.sizeOf23 rfl rfl rfl rfl)) ?_
  obtain ⟨r3, e3, hm⟩ := bind_some hm
  refine WL.quiet (Runs.free rfl) rfl rfl (oq_con (r := (.tuple #[(.agg #[(.int .i64 r3.1.low), (.int .i64 r3.1.high)]), (.int .i64 r3.2)])) Tryd.call17 rfl rfl (fun w' s => ⟨_, (timespan_Add_con r1 r2  w' H s.hold hG r3 e3)⟩)) ?_
  refine WL.quiet (Runs.free rfl) rfl rfl (OV.quiet (ov_move rfl rfl)) ?_
  refine WL.quiet (Runs.free rfl) rfl rfl (OV.quiet (ov_extract rfl rfl rfl)) ?_
  refine WL.quiet (Runs.free rfl) rfl rfl (OV.quiet (ov_extract rfl rfl rfl)) ?_
  refine WL.step (Runs.free rfl) rfl rfl (os_alloc (cs := [(.int .i64 0), (.int .i64 0)]) Tryd.zeroValue23 rfl rfl (fun b3 => ?_))
  refine WL.step0 (Runs.free rfl) rfl (os_store (i := 0) (vs := [(.int .i64 r3.1.low), (.int .i64 r3.1.high)]) (cs' := [(.int .i64 r3.1.low), (.int .i64 r3.1.high)]) Tryd.sizeOf23 rfl rfl rfl rfl rfl rfl rfl rfl rfl ?_)
  refine WL.quiet (Runs.free rfl) rfl rfl (OV.quiet (ov_assign rfl rfl)) ?_
  refine WL.nil ?_
  refine then_normal ?_
  refine WP.seq ?_
  refine WP.region ?_
  refine WL.quiet (Runs.free rfl) rfl rfl (OV.quiet (ov_load_whole (i := 2) Tryd.isAgg23 Tryd.sizeOf23 rfl rfl rfl rfl)) ?_
  refine WL.quiet (Runs.free rfl) rfl rfl (OV.quiet (ov_load_whole (i := 1) Tryd.isAgg23 Tryd.sizeOf23 rfl rfl rfl rfl)) ?_
  obtain ⟨r4, e4, hm⟩ := bind_some hm
  refine WL.quiet (Runs.free rfl) rfl rfl (oq_con (r := (.tuple #[(.agg #[(.int .i64 r4.1.low), (.int .i64 r4.1.high)]), (.int .i64 r4.2)])) Tryd.call18 rfl rfl (fun w' s => ⟨_, (timespan_Later_con r1 r2  w' H s.hold hG r4 e4)⟩)) ?_
  refine WL.quiet (Runs.free rfl) rfl rfl (OV.quiet (ov_move rfl rfl)) ?_
  refine WL.quiet (Runs.free rfl) rfl rfl (OV.quiet (ov_extract rfl rfl rfl)) ?_
  refine WL.quiet (Runs.free rfl) rfl rfl (OV.quiet (ov_extract rfl rfl rfl)) ?_
  refine WL.step (Runs.free rfl) rfl rfl (os_alloc (cs := [(.int .i64 0), (.int .i64 0)]) Tryd.zeroValue23 rfl rfl (fun b4 => ?_))
  refine WL.step0 (Runs.free rfl) rfl (os_store (i := 0) (vs := [(.int .i64 r4.1.low), (.int .i64 r4.1.high)]) (cs' := [(.int .i64 r4.1.low), (.int .i64 r4.1.high)]) Tryd.sizeOf23 rfl rfl rfl rfl rfl rfl rfl rfl rfl ?_)
  refine WL.quiet (Runs.free rfl) rfl rfl (OV.quiet (ov_assign rfl rfl)) ?_
  refine WL.nil ?_
  refine then_normal ?_
  refine WP.seq ?_
  refine WP.region ?_
  refine WL.quiet (Runs.free rfl) rfl rfl (OV.quiet (ov_load_whole (i := 3) Tryd.isAgg23 Tryd.sizeOf23 rfl rfl rfl rfl)) ?_
  refine WL.quiet (Runs.free rfl) rfl rfl (OV.quiet (ov_load_whole (i := 2) Tryd.isAgg23 Tryd.sizeOf23 rfl rfl rfl rfl)) ?_
  obtain ⟨r5, e5, hm⟩ := bind_some hm
  refine WL.quiet (Runs.free rfl) rfl rfl (oq_con (r := (.tuple #[(.agg #[(.int .i64 r5.1.low), (.int .i64 r5.1.high)]), (.int .i64 r5.2)])) Tryd.call19 rfl rfl (fun w' s => ⟨_, (timespan_Earlier_con r1 r2  w' H s.hold hG r5 e5)⟩)) ?_
  refine WL.quiet (Runs.free rfl) rfl rfl (OV.quiet (ov_move rfl rfl)) ?_
  refine WL.quiet (Runs.free rfl) rfl rfl (OV.quiet (ov_extract rfl rfl rfl)) ?_
  refine WL.quiet (Runs.free rfl) rfl rfl (OV.quiet (ov_extract rfl rfl rfl)) ?_
  refine WL.step (Runs.free rfl) rfl rfl (os_alloc (cs := [(.int .i64 0), (.int .i64 0)]) Tryd.zeroValue23 rfl rfl (fun b5 => ?_))
  refine WL.step0 (Runs.free rfl) rfl (os_store (i := 0) (vs := [(.int .i64 r5.1.low), (.int .i64 r5.1.high)]) (cs' := [(.int .i64 r5.1.low), (.int .i64 r5.1.high)]) Tryd.sizeOf23 rfl rfl rfl rfl rfl rfl rfl rfl rfl ?_)
  refine WL.quiet (Runs.free rfl) rfl rfl (OV.quiet (ov_assign rfl rfl)) ?_
  refine WL.nil ?_
  refine then_normal ?_
  refine WP.seq ?_
  refine WP.region ?_
  refine WL.quiet (Runs.free rfl) rfl rfl (OV.quiet (ov_load_whole (i := 4) Tryd.isAgg23 Tryd.sizeOf23 rfl rfl rfl rfl)) ?_
  refine WL.quiet (Runs.free rfl) rfl rfl (OV.quiet (ov_load_whole (i := 3) Tryd.isAgg23 Tryd.sizeOf23 rfl rfl rfl rfl)) ?_
  obtain ⟨r6, e6, hm⟩ := bind_some hm
  refine WL.quiet (Runs.free rfl) rfl rfl (oq_con (r := (.tuple #[(.agg #[(.int .i64 r6.1.low), (.int .i64 r6.1.high)]), (.bool r6.2.1), (.int .i64 r6.2.2)])) Tryd.call26 rfl rfl (fun w' s => ⟨_, (timespan_Meet_con r1 r2  w' H s.hold hG r6 e6)⟩)) ?_
  refine WL.quiet (Runs.free rfl) rfl rfl (OV.quiet (ov_move rfl rfl)) ?_
  refine WL.quiet (Runs.free rfl) rfl rfl (OV.quiet (ov_extract rfl rfl rfl)) ?_
  refine WL.quiet (Runs.free rfl) rfl rfl (OV.quiet (ov_extract rfl rfl rfl)) ?_
  refine WL.quiet (Runs.free rfl) rfl rfl (OV.quiet (ov_extract rfl rfl rfl)) ?_
  refine WL.step (Runs.free rfl) rfl rfl (os_alloc (cs := [(.int .i64 0), (.int .i64 0)]) Tryd.zeroValue23 rfl rfl (fun b6 => ?_))
  refine WL.step0 (Runs.free rfl) rfl (os_store (i := 0) (vs := [(.int .i64 r6.1.low), (.int .i64 r6.1.high)]) (cs' := [(.int .i64 r6.1.low), (.int .i64 r6.1.high)]) Tryd.sizeOf23 rfl rfl rfl rfl rfl rfl rfl rfl rfl ?_)
  refine WL.quiet (Runs.free rfl) rfl rfl (OV.quiet (ov_assign rfl rfl)) ?_
  refine WL.quiet (Runs.free rfl) rfl rfl (OV.quiet (ov_assign rfl rfl)) ?_
  refine WL.nil ?_
  refine then_normal ?_
  refine WP.seq ?_
  refine WP.seq ?_
  refine WP.region_draws (by kernel_rfl) (by kernel_rfl) (fun _ s => s.drew) ?_
  refine QL.quiet (Runs.free rfl) rfl rfl (OV.quiet (ov_move rfl rfl)) ?_
  refine QL.quiet (Runs.free rfl) rfl rfl (OV.quiet (ov_move rfl rfl)) ?_
  refine QL.quiet (Runs.free rfl) rfl rfl (OV.quiet (ov_add rfl rfl rfl)) ?_
  refine QL.quiet (Runs.free rfl) rfl rfl (OV.quiet (ov_move rfl rfl)) ?_
  refine QL.quiet (Runs.free rfl) rfl rfl (OV.quiet (ov_add rfl rfl rfl)) ?_
  refine QL.quiet (Runs.free rfl) rfl rfl (OV.quiet (ov_move rfl rfl)) ?_
  refine QL.quiet (Runs.free rfl) rfl rfl (OV.quiet (ov_add rfl rfl rfl)) ?_
  refine QL.quiet (Runs.free rfl) rfl rfl (OV.quiet (ov_neq rfl rfl rfl)) ?_
  refine QL.quiet (Runs.free rfl) rfl rfl (OV.quiet (ov_move rfl rfl)) ?_
  obtain ⟨c1, e7, hm⟩ := bind_some hm
  refine QL.part_bool 4 59 (x := c1) ?_ ?_
  · rcases Bool.eq_false_or_eq_true ((IntKind.wrap .i64 ((IntKind.wrap .i64 ((IntKind.wrap .i64 (r3.2 + r4.2)) + r5.2)) + r6.2.2)) != 0) with hc1 | hc1
    · skip
      replace hm := ite_t hc1 e7
      refine QL.idle (Idle.no rfl rfl rfl hc1) rfl rfl ?_
      refine QL.idle (Idle.no rfl rfl rfl hc1) rfl rfl ?_
      refine QL.idle (Idle.no rfl rfl rfl hc1) rfl rfl ?_
      refine QL.quiet (Runs.free rfl) rfl rfl (OV.quiet (ov_pick_true rfl (guard_eq rfl hc1) rfl)) ?_
      exact QL.nil (Sub.cons' rfl (congrArg Value.bool (Option.some.inj hm)) (Sub.skip rfl (Sub.skip rfl (Sub.skip rfl (Sub.skip rfl (Sub.refl _))))))
    · skip
      replace hm := ite_f hc1 e7
      refine QL.quiet (Runs.yes rfl rfl rfl hc1) rfl rfl (OV.quiet (ov_load_whole (i := 3) Tryd.isAgg23 Tryd.sizeOf23 rfl rfl rfl rfl)) ?_
      obtain ⟨r7, e8, hm⟩ := bind_some hm
      refine QL.quiet (Runs.yes rfl rfl rfl hc1) rfl rfl (oq_con (r := (.agg #[(.int .i64 r7.low), (.int .i64 r7.high)])) Tryd.call40 rfl rfl (fun w' s => ⟨_, (law03_span_con 15 50  w' H s.hold hG r7 e8)⟩)) ?_
      refine QL.quiet (Runs.yes rfl rfl rfl hc1) rfl rfl (OV.quiet (neq_struct23 rfl rfl rfl)) ?_
      refine QL.quiet (Runs.free rfl) rfl rfl (OV.quiet (ov_pick_false rfl (guard_eq rfl hc1) rfl)) ?_
      exact QL.nil (Sub.cons' rfl (congrArg Value.bool (Option.some.inj hm)) (Sub.skip rfl (Sub.skip rfl (Sub.skip rfl (Sub.skip rfl (Sub.refl _))))))
  refine QL.quiet (Runs.free rfl) rfl rfl (OV.quiet (ov_move rfl rfl)) ?_
  obtain ⟨c2, e9, hm⟩ := bind_some hm
  refine QL.part_bool 4 64 (x := c2) ?_ ?_
  · rcases Bool.eq_false_or_eq_true c1 with hc2 | hc2
    · skip
      replace hm := ite_t hc2 e9
      refine QL.idle (Idle.no rfl rfl rfl hc2) rfl rfl ?_
      refine QL.idle (Idle.no rfl rfl rfl hc2) rfl rfl ?_
      refine QL.idle (Idle.no rfl rfl rfl hc2) rfl rfl ?_
      refine QL.quiet (Runs.free rfl) rfl rfl (OV.quiet (ov_pick_true rfl (guard_eq rfl hc2) rfl)) ?_
      exact QL.nil (Sub.cons' rfl (congrArg Value.bool (Option.some.inj hm)) (Sub.skip rfl (Sub.skip rfl (Sub.skip rfl (Sub.skip rfl (Sub.refl _))))))
    · skip
      replace hm := ite_f hc2 e9
      refine QL.quiet (Runs.yes rfl rfl rfl hc2) rfl rfl (OV.quiet (ov_load_whole (i := 2) Tryd.isAgg23 Tryd.sizeOf23 rfl rfl rfl rfl)) ?_
      obtain ⟨r8, e10, hm⟩ := bind_some hm
      refine QL.quiet (Runs.yes rfl rfl rfl hc2) rfl rfl (oq_con (r := (.agg #[(.int .i64 r8.low), (.int .i64 r8.high)])) Tryd.call40 rfl rfl (fun w' s => ⟨_, (law03_span_con 10 30  w' H s.hold hG r8 e10)⟩)) ?_
      refine QL.quiet (Runs.yes rfl rfl rfl hc2) rfl rfl (OV.quiet (neq_struct23 rfl rfl rfl)) ?_
      refine QL.quiet (Runs.free rfl) rfl rfl (OV.quiet (ov_pick_false rfl (guard_eq rfl hc2) rfl)) ?_
      exact QL.nil (Sub.cons' rfl (congrArg Value.bool (Option.some.inj hm)) (Sub.skip rfl (Sub.skip rfl (Sub.skip rfl (Sub.skip rfl (Sub.refl _))))))
  refine QL.quiet (Runs.free rfl) rfl rfl (OV.quiet (ov_move rfl rfl)) ?_
  obtain ⟨c3, e11, hm⟩ := bind_some hm
  refine QL.part_bool 4 69 (x := c3) ?_ ?_
  · rcases Bool.eq_false_or_eq_true c2 with hc3 | hc3
    · skip
      replace hm := ite_t hc3 e11
      refine QL.idle (Idle.no rfl rfl rfl hc3) rfl rfl ?_
      refine QL.idle (Idle.no rfl rfl rfl hc3) rfl rfl ?_
      refine QL.idle (Idle.no rfl rfl rfl hc3) rfl rfl ?_
      refine QL.quiet (Runs.free rfl) rfl rfl (OV.quiet (ov_pick_true rfl (guard_eq rfl hc3) rfl)) ?_
      exact QL.nil (Sub.cons' rfl (congrArg Value.bool (Option.some.inj hm)) (Sub.skip rfl (Sub.skip rfl (Sub.skip rfl (Sub.skip rfl (Sub.refl _))))))
    · skip
      replace hm := ite_f hc3 e11
      refine QL.quiet (Runs.yes rfl rfl rfl hc3) rfl rfl (OV.quiet (ov_load_whole (i := 1) Tryd.isAgg23 Tryd.sizeOf23 rfl rfl rfl rfl)) ?_
      obtain ⟨r9, e12, hm⟩ := bind_some hm
      refine QL.quiet (Runs.yes rfl rfl rfl hc3) rfl rfl (oq_con (r := (.agg #[(.int .i64 r9.low), (.int .i64 r9.high)])) Tryd.call40 rfl rfl (fun w' s => ⟨_, (law03_span_con 5 20  w' H s.hold hG r9 e12)⟩)) ?_
      refine QL.quiet (Runs.yes rfl rfl rfl hc3) rfl rfl (OV.quiet (neq_struct23 rfl rfl rfl)) ?_
      refine QL.quiet (Runs.free rfl) rfl rfl (OV.quiet (ov_pick_false rfl (guard_eq rfl hc3) rfl)) ?_
      exact QL.nil (Sub.cons' rfl (congrArg Value.bool (Option.some.inj hm)) (Sub.skip rfl (Sub.skip rfl (Sub.skip rfl (Sub.skip rfl (Sub.refl _))))))
  refine QL.quiet (Runs.free rfl) rfl rfl (OV.quiet (ov_move rfl rfl)) ?_
  refine QL.part_bool 3 73 (x := (c3 || (!r6.2.1))) ?_ ?_
  · rcases Bool.eq_false_or_eq_true c3 with hc4 | hc4
    · skip
      refine QL.idle (Idle.no rfl rfl rfl hc4) rfl rfl ?_
      refine QL.idle (Idle.no rfl rfl rfl hc4) rfl rfl ?_
      refine QL.quiet (Runs.free rfl) rfl rfl (OV.quiet (ov_pick_true rfl (guard_eq rfl hc4) rfl)) ?_
      exact QL.nil (Sub.cons' rfl (congrArg Value.bool (by rw [hc4]; rfl)) (Sub.skip rfl (Sub.skip rfl (Sub.skip rfl (Sub.refl _)))))
    · skip
      refine QL.quiet (Runs.yes rfl rfl rfl hc4) rfl rfl (OV.quiet (ov_move rfl rfl)) ?_
      refine QL.quiet (Runs.yes rfl rfl rfl hc4) rfl rfl (OV.quiet (ov_not rfl rfl)) ?_
      refine QL.quiet (Runs.free rfl) rfl rfl (OV.quiet (ov_pick_false rfl (guard_eq rfl hc4) rfl)) ?_
      exact QL.nil (Sub.cons' rfl (congrArg Value.bool (by rw [hc4]; rfl)) (Sub.skip rfl (Sub.skip rfl (Sub.skip rfl (Sub.refl _)))))
  refine QL.quiet (Runs.free rfl) rfl rfl (OV.quiet (ov_move rfl rfl)) ?_
  refine QL.part_bool 4 78 (x := ((c3 || (!r6.2.1)) || (!(r6.1 == r1)))) ?_ ?_
  · rcases Bool.eq_false_or_eq_true (c3 || (!r6.2.1)) with hc5 | hc5
    · skip
      refine QL.idle (Idle.no rfl rfl rfl hc5) rfl rfl ?_
      refine QL.idle (Idle.no rfl rfl rfl hc5) rfl rfl ?_
      refine QL.idle (Idle.no rfl rfl rfl hc5) rfl rfl ?_
      refine QL.quiet (Runs.free rfl) rfl rfl (OV.quiet (ov_pick_true rfl (guard_eq rfl hc5) rfl)) ?_
      exact QL.nil (Sub.cons' rfl (congrArg Value.bool (by rw [hc5]; rfl)) (Sub.skip rfl (Sub.skip rfl (Sub.skip rfl (Sub.skip rfl (Sub.refl _))))))
    · skip
      refine QL.quiet (Runs.yes rfl rfl rfl hc5) rfl rfl (OV.quiet (ov_load_whole (i := 0) Tryd.isAgg23 Tryd.sizeOf23 rfl rfl rfl rfl)) ?_
      refine QL.quiet (Runs.yes rfl rfl rfl hc5) rfl rfl (OV.quiet (ov_load_whole (i := 5) Tryd.isAgg23 Tryd.sizeOf23 rfl rfl rfl rfl)) ?_
      refine QL.quiet (Runs.yes rfl rfl rfl hc5) rfl rfl (OV.quiet (neq_struct23 rfl rfl rfl)) ?_
      refine QL.quiet (Runs.free rfl) rfl rfl (OV.quiet (ov_pick_false rfl (guard_eq rfl hc5) rfl)) ?_
      exact QL.nil (Sub.cons' rfl (congrArg Value.bool (by rw [hc5]; rfl)) (Sub.skip rfl (Sub.skip rfl (Sub.skip rfl (Sub.skip rfl (Sub.refl _))))))
  refine QL.nil ?_
  refine then_normal ?_
  refine WP.cond rfl (fun hc6 => ?_) (fun hc6 => ?_)
  · replace hm := ite_t hc6 hm
    refine WP.seq ?_
    refine WP.region ?_
    refine WL.quiet (Runs.free rfl) rfl rfl (OV.quiet (ov_assign rfl rfl)) ?_
    refine WL.nil ?_
    refine then_normal ?_
    refine WP.ret ?_
    refine then_ret ?_
    obtain rfl := Option.some.inj hm
    refine retQ_ret Tryd.results11 (Res.tmp rfl Res.nil) rfl (fun w' s => ⟨s.below, ?_⟩)
    exact rfl
  · replace hm := ite_f hc6 hm
    refine WP.skip ?_
    refine then_normal ?_
    refine WP.seq ?_
    refine WP.region ?_
    obtain ⟨r10, e13, hm⟩ := bind_some hm
    refine WL.quiet (Runs.free rfl) rfl rfl (oq_con (r := (.agg #[(.int .i64 r10.low), (.int .i64 r10.high)])) Tryd.call40 rfl rfl (fun w' s => ⟨_, (law03_span_con 1 4  w' H s.hold hG r10 e13)⟩)) ?_
    obtain ⟨r11, e14, hm⟩ := bind_some hm
    refine WL.quiet (Runs.free rfl) rfl rfl (oq_con (r := (.agg #[(.int .i64 r11.low), (.int .i64 r11.high)])) Tryd.call40 rfl rfl (fun w' s => ⟨_, (law03_span_con 5 9  w' H s.hold hG r11 e14)⟩)) ?_
    obtain ⟨r12, e15, hm⟩ := bind_some hm
    refine WL.quiet (Runs.free rfl) rfl rfl (oq_con (r := (.tuple #[(.int .i64 r12.1), (.int .i64 r12.2)])) Tryd.call30 rfl rfl (fun w' s => ⟨_, (timespan_Compare_con r10 r11  w' H s.hold hG r12 e15)⟩)) ?_
    refine WL.quiet (Runs.free rfl) rfl rfl (OV.quiet (ov_move rfl rfl)) ?_
    refine WL.quiet (Runs.free rfl) rfl rfl (OV.quiet (ov_extract rfl rfl rfl)) ?_
    refine WL.quiet (Runs.free rfl) rfl rfl (OV.quiet (ov_extract rfl rfl rfl)) ?_
    refine WL.quiet (Runs.free rfl) rfl rfl (OV.quiet (ov_assign rfl rfl)) ?_
    refine WL.quiet (Runs.free rfl) rfl rfl (OV.quiet (ov_assign rfl rfl)) ?_
    refine WL.nil ?_
    refine then_normal ?_
    refine WP.seq ?_
    refine WP.region ?_
    obtain ⟨r13, e16, hm⟩ := bind_some hm
    refine WL.quiet (Runs.free rfl) rfl rfl (oq_con (r := (.agg #[(.int .i64 r13.low), (.int .i64 r13.high)])) Tryd.call40 rfl rfl (fun w' s => ⟨_, (law03_span_con 1 5  w' H s.hold hG r13 e16)⟩)) ?_
    obtain ⟨r14, e17, hm⟩ := bind_some hm
    refine WL.quiet (Runs.free rfl) rfl rfl (oq_con (r := (.agg #[(.int .i64 r14.low), (.int .i64 r14.high)])) Tryd.call40 rfl rfl (fun w' s => ⟨_, (law03_span_con 5 9  w' H s.hold hG r14 e17)⟩)) ?_
    obtain ⟨r15, e18, hm⟩ := bind_some hm
    refine WL.quiet (Runs.free rfl) rfl rfl (oq_con (r := (.tuple #[(.int .i64 r15.1), (.int .i64 r15.2)])) Tryd.call30 rfl rfl (fun w' s => ⟨_, (timespan_Compare_con r13 r14  w' H s.hold hG r15 e18)⟩)) ?_
    refine WL.quiet (Runs.free rfl) rfl rfl (OV.quiet (ov_move rfl rfl)) ?_
    refine WL.quiet (Runs.free rfl) rfl rfl (OV.quiet (ov_extract rfl rfl rfl)) ?_
    refine WL.quiet (Runs.free rfl) rfl rfl (OV.quiet (ov_extract rfl rfl rfl)) ?_
    refine WL.quiet (Runs.free rfl) rfl rfl (OV.quiet (ov_assign rfl rfl)) ?_
    refine WL.quiet (Runs.free rfl) rfl rfl (OV.quiet (ov_assign rfl rfl)) ?_
    refine WL.nil ?_
    refine then_normal ?_
    refine WP.seq ?_
    refine WP.region ?_
    obtain ⟨r16, e19, hm⟩ := bind_some hm
    refine WL.quiet (Runs.free rfl) rfl rfl (oq_con (r := (.agg #[(.int .i64 r16.low), (.int .i64 r16.high)])) Tryd.call40 rfl rfl (fun w' s => ⟨_, (law03_span_con 20 30  w' H s.hold hG r16 e19)⟩)) ?_
    obtain ⟨r17, e20, hm⟩ := bind_some hm
    refine WL.quiet (Runs.free rfl) rfl rfl (oq_con (r := (.tuple #[(mkS r17.1), (.int .i64 r17.2)])) Tryd.call12 rfl rfl (fun w' s => ⟨_, (timespan_Format_con r16  w' H s.hold hG r17 e20)⟩)) ?_
    refine WL.quiet (Runs.free rfl) rfl rfl (OV.quiet (ov_move rfl rfl)) ?_
    refine WL.quiet (Runs.free rfl) rfl rfl (OV.quiet (ov_extract rfl rfl rfl)) ?_
    refine WL.quiet (Runs.free rfl) rfl rfl (OV.quiet (ov_extract rfl rfl rfl)) ?_
    refine WL.quiet (Runs.free rfl) rfl rfl (OV.quiet (ov_assign rfl rfl)) ?_
    refine WL.quiet (Runs.free rfl) rfl rfl (OV.quiet (ov_assign rfl rfl)) ?_
    refine WL.nil ?_
    refine then_normal ?_
    refine WP.seq ?_
    refine WP.region ?_
    obtain ⟨r18, e21, hm⟩ := bind_some hm
    refine WL.quiet (Runs.free rfl) rfl rfl (oq_con (r := (.tuple #[(.agg #[(.int .i64 r18.1.low), (.int .i64 r18.1.high)]), (.int .i64 r18.2)])) Tryd.call14 rfl rfl (fun w' s => ⟨_, (timespan_Parse_con [55]  w' H s.hold hG r18 e21)⟩)) ?_
    refine WL.quiet (Runs.free rfl) rfl rfl (OV.quiet (ov_move rfl rfl)) ?_
    refine WL.quiet (Runs.free rfl) rfl rfl (OV.quiet (ov_extract rfl rfl rfl)) ?_
    refine WL.quiet (Runs.free rfl) rfl rfl (OV.quiet (ov_extract rfl rfl rfl)) ?_
    refine WL.step (Runs.free rfl) rfl rfl (os_alloc (cs := [(.int .i64 0), (.int .i64 0)]) Tryd.zeroValue23 rfl rfl (fun b7 => ?_))
    refine WL.step0 (Runs.free rfl) rfl (os_store (i := 0) (vs := [(.int .i64 r18.1.low), (.int .i64 r18.1.high)]) (cs' := [(.int .i64 r18.1.low), (.int .i64 r18.1.high)]) Tryd.sizeOf23 rfl rfl rfl rfl rfl rfl rfl rfl rfl ?_)
    refine WL.quiet (Runs.free rfl) rfl rfl (OV.quiet (ov_assign rfl rfl)) ?_
    refine WL.nil ?_
    refine then_normal ?_
    refine WP.seq ?_
    refine WP.region ?_
    obtain ⟨r19, e22, hm⟩ := bind_some hm
    refine WL.quiet (Runs.free rfl) rfl rfl (oq_con (r := (.tuple #[(.agg #[(.int .i64 r19.1.low), (.int .i64 r19.1.high)]), (.int .i64 r19.2)])) Tryd.call14 rfl rfl (fun w' s => ⟨_, (timespan_Parse_con [55, 46, 46, 55]  w' H s.hold hG r19 e22)⟩)) ?_
    refine WL.quiet (Runs.free rfl) rfl rfl (OV.quiet (ov_move rfl rfl)) ?_
    refine WL.quiet (Runs.free rfl) rfl rfl (OV.quiet (ov_extract rfl rfl rfl)) ?_
    refine WL.quiet (Runs.free rfl) rfl rfl (OV.quiet (ov_extract rfl rfl rfl)) ?_
    refine WL.step (Runs.free rfl) rfl rfl (os_alloc (cs := [(.int .i64 0), (.int .i64 0)]) Tryd.zeroValue23 rfl rfl (fun b8 => ?_))
    refine WL.step0 (Runs.free rfl) rfl (os_store (i := 0) (vs := [(.int .i64 r19.1.low), (.int .i64 r19.1.high)]) (cs' := [(.int .i64 r19.1.low), (.int .i64 r19.1.high)]) Tryd.sizeOf23 rfl rfl rfl rfl rfl rfl rfl rfl rfl ?_)
    refine WL.quiet (Runs.free rfl) rfl rfl (OV.quiet (ov_assign rfl rfl)) ?_
    refine WL.nil ?_
    refine then_normal ?_
    refine WP.seq ?_
    refine WP.region ?_
    obtain ⟨r20, e23, hm⟩ := bind_some hm
    refine WL.quiet (Runs.free rfl) rfl rfl (oq_con (r := (.tuple #[(.agg #[(.int .i64 r20.1.low), (.int .i64 r20.1.high)]), (.int .i64 r20.2)])) Tryd.call14 rfl rfl (fun w' s => ⟨_, (timespan_Parse_con [57, 46, 46, 55]  w' H s.hold hG r20 e23)⟩)) ?_
    refine WL.quiet (Runs.free rfl) rfl rfl (OV.quiet (ov_move rfl rfl)) ?_
    refine WL.quiet (Runs.free rfl) rfl rfl (OV.quiet (ov_extract rfl rfl rfl)) ?_
    refine WL.quiet (Runs.free rfl) rfl rfl (OV.quiet (ov_extract rfl rfl rfl)) ?_
    refine WL.step (Runs.free rfl) rfl rfl (os_alloc (cs := [(.int .i64 0), (.int .i64 0)]) Tryd.zeroValue23 rfl rfl (fun b9 => ?_))
    refine WL.step0 (Runs.free rfl) rfl (os_store (i := 0) (vs := [(.int .i64 r20.1.low), (.int .i64 r20.1.high)]) (cs' := [(.int .i64 r20.1.low), (.int .i64 r20.1.high)]) Tryd.sizeOf23 rfl rfl rfl rfl rfl rfl rfl rfl rfl ?_)
    refine WL.quiet (Runs.free rfl) rfl rfl (OV.quiet (ov_assign rfl rfl)) ?_
    refine WL.nil ?_
    refine then_normal ?_
    refine WP.seq ?_
    refine WP.region_draws (by kernel_rfl) (by kernel_rfl) (fun _ s => s.drew) ?_
    refine QL.quiet (Runs.free rfl) rfl rfl (OV.quiet (ov_move rfl rfl)) ?_
    refine QL.quiet (Runs.free rfl) rfl rfl (OV.quiet (ov_move rfl rfl)) ?_
    refine QL.quiet (Runs.free rfl) rfl rfl (OV.quiet (ov_add rfl rfl rfl)) ?_
    refine QL.quiet (Runs.free rfl) rfl rfl (OV.quiet (ov_move rfl rfl)) ?_
    refine QL.quiet (Runs.free rfl) rfl rfl (OV.quiet (ov_add rfl rfl rfl)) ?_
    refine QL.quiet (Runs.free rfl) rfl rfl (OV.quiet (ov_move rfl rfl)) ?_
    refine QL.quiet (Runs.free rfl) rfl rfl (OV.quiet (ov_add rfl rfl rfl)) ?_
    refine QL.quiet (Runs.free rfl) rfl rfl (OV.quiet (ov_eql rfl rfl rfl)) ?_
    refine QL.quiet (Runs.free rfl) rfl rfl (OV.quiet (ov_move rfl rfl)) ?_
    refine QL.part_bool 3 119 (x := (((IntKind.wrap .i64 ((IntKind.wrap .i64 ((IntKind.wrap .i64 (r12.2 + r15.2)) + r17.2)) + r18.2)) == 0) && (r19.2 == 3))) ?_ ?_
    · rcases Bool.eq_false_or_eq_true ((IntKind.wrap .i64 ((IntKind.wrap .i64 ((IntKind.wrap .i64 (r12.2 + r15.2)) + r17.2)) + r18.2)) == 0) with hc7 | hc7
      · skip
        refine QL.quiet (Runs.yes rfl rfl rfl hc7) rfl rfl (OV.quiet (ov_move rfl rfl)) ?_
        refine QL.quiet (Runs.yes rfl rfl rfl hc7) rfl rfl (OV.quiet (ov_eql rfl rfl rfl)) ?_
        refine QL.quiet (Runs.free rfl) rfl rfl (OV.quiet (ov_pick_true rfl (guard_eq rfl hc7) rfl)) ?_
        exact QL.nil (Sub.cons' rfl (congrArg Value.bool (by rw [hc7]; rfl)) (Sub.skip rfl (Sub.skip rfl (Sub.skip rfl (Sub.refl _)))))
      · skip
        refine QL.idle (Idle.no rfl rfl rfl hc7) rfl rfl ?_
        refine QL.idle (Idle.no rfl rfl rfl hc7) rfl rfl ?_
        refine QL.quiet (Runs.free rfl) rfl rfl (OV.quiet (ov_pick_false rfl (guard_eq rfl hc7) rfl)) ?_
        exact QL.nil (Sub.cons' rfl (congrArg Value.bool (by rw [hc7]; rfl)) (Sub.skip rfl (Sub.skip rfl (Sub.skip rfl (Sub.refl _)))))
    refine QL.quiet (Runs.free rfl) rfl rfl (OV.quiet (ov_move rfl rfl)) ?_
    refine QL.part_bool 3 123 (x := ((((IntKind.wrap .i64 ((IntKind.wrap .i64 ((IntKind.wrap .i64 (r12.2 + r15.2)) + r17.2)) + r18.2)) == 0) && (r19.2 == 3)) && (r20.2 == 9))) ?_ ?_
    · rcases Bool.eq_false_or_eq_true (((IntKind.wrap .i64 ((IntKind.wrap .i64 ((IntKind.wrap .i64 (r12.2 + r15.2)) + r17.2)) + r18.2)) == 0) && (r19.2 == 3)) with hc8 | hc8
      · skip
        refine QL.quiet (Runs.yes rfl rfl rfl hc8) rfl rfl (OV.quiet (ov_move rfl rfl)) ?_
        refine QL.quiet (Runs.yes rfl rfl rfl hc8) rfl rfl (OV.quiet (ov_eql rfl rfl rfl)) ?_
        refine QL.quiet (Runs.free rfl) rfl rfl (OV.quiet (ov_pick_true rfl (guard_eq rfl hc8) rfl)) ?_
        exact QL.nil (Sub.cons' rfl (congrArg Value.bool (by rw [hc8]; rfl)) (Sub.skip rfl (Sub.skip rfl (Sub.skip rfl (Sub.refl _)))))
      · skip
        refine QL.idle (Idle.no rfl rfl rfl hc8) rfl rfl ?_
        refine QL.idle (Idle.no rfl rfl rfl hc8) rfl rfl ?_
        refine QL.quiet (Runs.free rfl) rfl rfl (OV.quiet (ov_pick_false rfl (guard_eq rfl hc8) rfl)) ?_
        exact QL.nil (Sub.cons' rfl (congrArg Value.bool (by rw [hc8]; rfl)) (Sub.skip rfl (Sub.skip rfl (Sub.skip rfl (Sub.refl _)))))
    refine QL.quiet (Runs.free rfl) rfl rfl (OV.quiet (ov_move rfl rfl)) ?_
    refine QL.part_bool 3 127 (x := (((((IntKind.wrap .i64 ((IntKind.wrap .i64 ((IntKind.wrap .i64 (r12.2 + r15.2)) + r17.2)) + r18.2)) == 0) && (r19.2 == 3)) && (r20.2 == 9)) && (r12.1 == (-1)))) ?_ ?_
    · rcases Bool.eq_false_or_eq_true ((((IntKind.wrap .i64 ((IntKind.wrap .i64 ((IntKind.wrap .i64 (r12.2 + r15.2)) + r17.2)) + r18.2)) == 0) && (r19.2 == 3)) && (r20.2 == 9)) with hc9 | hc9
      · skip
        refine QL.quiet (Runs.yes rfl rfl rfl hc9) rfl rfl (OV.quiet (ov_move rfl rfl)) ?_
        refine QL.quiet (Runs.yes rfl rfl rfl hc9) rfl rfl (OV.quiet (ov_eql rfl rfl rfl)) ?_
        refine QL.quiet (Runs.free rfl) rfl rfl (OV.quiet (ov_pick_true rfl (guard_eq rfl hc9) rfl)) ?_
        exact QL.nil (Sub.cons' rfl (congrArg Value.bool (by rw [hc9]; rfl)) (Sub.skip rfl (Sub.skip rfl (Sub.skip rfl (Sub.refl _)))))
      · skip
        refine QL.idle (Idle.no rfl rfl rfl hc9) rfl rfl ?_
        refine QL.idle (Idle.no rfl rfl rfl hc9) rfl rfl ?_
        refine QL.quiet (Runs.free rfl) rfl rfl (OV.quiet (ov_pick_false rfl (guard_eq rfl hc9) rfl)) ?_
        exact QL.nil (Sub.cons' rfl (congrArg Value.bool (by rw [hc9]; rfl)) (Sub.skip rfl (Sub.skip rfl (Sub.skip rfl (Sub.refl _)))))
    refine QL.quiet (Runs.free rfl) rfl rfl (OV.quiet (ov_move rfl rfl)) ?_
    refine QL.part_bool 3 131 (x := ((((((IntKind.wrap .i64 ((IntKind.wrap .i64 ((IntKind.wrap .i64 (r12.2 + r15.2)) + r17.2)) + r18.2)) == 0) && (r19.2 == 3)) && (r20.2 == 9)) && (r12.1 == (-1))) && (r15.1 == 0))) ?_ ?_
    · rcases Bool.eq_false_or_eq_true (((((IntKind.wrap .i64 ((IntKind.wrap .i64 ((IntKind.wrap .i64 (r12.2 + r15.2)) + r17.2)) + r18.2)) == 0) && (r19.2 == 3)) && (r20.2 == 9)) && (r12.1 == (-1))) with hc10 | hc10
      · skip
        refine QL.quiet (Runs.yes rfl rfl rfl hc10) rfl rfl (OV.quiet (ov_move rfl rfl)) ?_
        refine QL.quiet (Runs.yes rfl rfl rfl hc10) rfl rfl (OV.quiet (ov_eql rfl rfl rfl)) ?_
        refine QL.quiet (Runs.free rfl) rfl rfl (OV.quiet (ov_pick_true rfl (guard_eq rfl hc10) rfl)) ?_
        exact QL.nil (Sub.cons' rfl (congrArg Value.bool (by rw [hc10]; rfl)) (Sub.skip rfl (Sub.skip rfl (Sub.skip rfl (Sub.refl _)))))
      · skip
        refine QL.idle (Idle.no rfl rfl rfl hc10) rfl rfl ?_
        refine QL.idle (Idle.no rfl rfl rfl hc10) rfl rfl ?_
        refine QL.quiet (Runs.free rfl) rfl rfl (OV.quiet (ov_pick_false rfl (guard_eq rfl hc10) rfl)) ?_
        exact QL.nil (Sub.cons' rfl (congrArg Value.bool (by rw [hc10]; rfl)) (Sub.skip rfl (Sub.skip rfl (Sub.skip rfl (Sub.refl _)))))
    refine QL.quiet (Runs.free rfl) rfl rfl (OV.quiet (ov_move rfl rfl)) ?_
    refine QL.part_bool 3 135 (x := (((((((IntKind.wrap .i64 ((IntKind.wrap .i64 ((IntKind.wrap .i64 (r12.2 + r15.2)) + r17.2)) + r18.2)) == 0) && (r19.2 == 3)) && (r20.2 == 9)) && (r12.1 == (-1))) && (r15.1 == 0)) && (r17.1 == [50, 48, 46, 46, 51, 48]))) ?_ ?_
    · rcases Bool.eq_false_or_eq_true ((((((IntKind.wrap .i64 ((IntKind.wrap .i64 ((IntKind.wrap .i64 (r12.2 + r15.2)) + r17.2)) + r18.2)) == 0) && (r19.2 == 3)) && (r20.2 == 9)) && (r12.1 == (-1))) && (r15.1 == 0)) with hc11 | hc11
      · skip
        refine QL.quiet (Runs.yes rfl rfl rfl hc11) rfl rfl (OV.quiet (ov_move rfl rfl)) ?_
        refine QL.quiet (Runs.yes rfl rfl rfl hc11) rfl rfl (OV.quiet (ov_seql rfl rfl rfl)) ?_
        refine QL.quiet (Runs.free rfl) rfl rfl (OV.quiet (ov_pick_true rfl (guard_eq rfl hc11) rfl)) ?_
        exact QL.nil (Sub.cons' rfl (congrArg Value.bool (by rw [hc11]; rfl)) (Sub.skip rfl (Sub.skip rfl (Sub.skip rfl (Sub.refl _)))))
      · skip
        refine QL.idle (Idle.no rfl rfl rfl hc11) rfl rfl ?_
        refine QL.idle (Idle.no rfl rfl rfl hc11) rfl rfl ?_
        refine QL.quiet (Runs.free rfl) rfl rfl (OV.quiet (ov_pick_false rfl (guard_eq rfl hc11) rfl)) ?_
        exact QL.nil (Sub.cons' rfl (congrArg Value.bool (by rw [hc11]; rfl)) (Sub.skip rfl (Sub.skip rfl (Sub.skip rfl (Sub.refl _)))))
    refine QL.quiet (Runs.free rfl) rfl rfl (OV.quiet (ov_move rfl rfl)) ?_
    obtain ⟨c4, e24, hm⟩ := bind_some hm
    refine QL.part_bool 4 140 (x := c4) ?_ ?_
    · rcases Bool.eq_false_or_eq_true (((((((IntKind.wrap .i64 ((IntKind.wrap .i64 ((IntKind.wrap .i64 (r12.2 + r15.2)) + r17.2)) + r18.2)) == 0) && (r19.2 == 3)) && (r20.2 == 9)) && (r12.1 == (-1))) && (r15.1 == 0)) && (r17.1 == [50, 48, 46, 46, 51, 48])) with hc12 | hc12
      · skip
        replace hm := ite_t hc12 e24
        refine QL.quiet (Runs.yes rfl rfl rfl hc12) rfl rfl (OV.quiet (ov_load_whole (i := 2) Tryd.isAgg23 Tryd.sizeOf23 rfl rfl rfl rfl)) ?_
        obtain ⟨r21, e25, hm⟩ := bind_some hm
        refine QL.quiet (Runs.yes rfl rfl rfl hc12) rfl rfl (oq_con (r := (.agg #[(.int .i64 r21.low), (.int .i64 r21.high)])) Tryd.call40 rfl rfl (fun w' s => ⟨_, (law03_span_con 7 7  w' H s.hold hG r21 e25)⟩)) ?_
        refine QL.quiet (Runs.yes rfl rfl rfl hc12) rfl rfl (OV.quiet (eql_struct23 rfl rfl rfl)) ?_
        refine QL.quiet (Runs.free rfl) rfl rfl (OV.quiet (ov_pick_true rfl (guard_eq rfl hc12) rfl)) ?_
        exact QL.nil (Sub.cons' rfl (congrArg Value.bool (Option.some.inj hm)) (Sub.skip rfl (Sub.skip rfl (Sub.skip rfl (Sub.skip rfl (Sub.refl _))))))
      · skip
        replace hm := ite_f hc12 e24
        refine QL.idle (Idle.no rfl rfl rfl hc12) rfl rfl ?_
        refine QL.idle (Idle.no rfl rfl rfl hc12) rfl rfl ?_
        refine QL.idle (Idle.no rfl rfl rfl hc12) rfl rfl ?_
        refine QL.quiet (Runs.free rfl) rfl rfl (OV.quiet (ov_pick_false rfl (guard_eq rfl hc12) rfl)) ?_
        exact QL.nil (Sub.cons' rfl (congrArg Value.bool (Option.some.inj hm)) (Sub.skip rfl (Sub.skip rfl (Sub.skip rfl (Sub.skip rfl (Sub.refl _))))))
    refine QL.quiet (Runs.free rfl) rfl rfl (OV.quiet (ov_assign rfl rfl)) ?_
    refine QL.nil ?_
    refine then_normal ?_
    refine WP.ret ?_
    obtain rfl := Option.some.inj hm
    refine retQ_ret Tryd.results11 (Res.tmp rfl Res.nil) rfl (fun w' s => ⟨s.below, ?_⟩)
    exact rfl

theorem law03_TimespanTexts_con (p_a : Span) (p_s : (List UInt8)) (w : World) (H : Heap) (hH : Le H (hp w)) (hG : Glob H) (r : Bool) (hm : law03_TimespanTexts p_a p_s = some r) :
    Con Tryd.prog 3 [(.agg #[(.int .i64 p_a.low), (.int .i64 p_a.high)]), (mkS p_s)] w H (fun v _ => v = (.bool r)) := by
  unfold law03_TimespanTexts at hm
  refine con_of hH Tryd.func3 rfl 58 Tryd.ntmps3 rfl ?_
  refine WP.seq ?_
  refine WP.region ?_
  refine WL.step (Runs.free rfl) rfl rfl (os_box (cs := [(.int .i64 p_a.low), (.int .i64 p_a.high)]) rfl rfl rfl (fun b1 => ?_))
  refine WL.quiet (Runs.free rfl) rfl rfl (OV.quiet (ov_assign rfl rfl)) ?_
  refine WL.nil ?_
  refine then_normal ?_
  refine WP.seq ?_
  refine WP.seq ?_
  refine WP.region ?_
  refine WL.quiet (Runs.free rfl) rfl rfl (OV.quiet (ov_move rfl rfl)) ?_
  refine WL.quiet (Runs.free rfl) rfl rfl (OV.quiet (ov_len_string Tryd.underlying9 rfl rfl)) ?_
  refine WL.quiet (Runs.free rfl) rfl rfl (OV.quiet (ov_gtr rfl rfl rfl)) ?_
  refine WL.nil ?_
  refine then_normal ?_
  refine WP.cond rfl (fun hc1 => ?_) (fun hc1 => ?_)
  · replace hm := ite_t hc1 hm
    refine WP.seq ?_
    refine WP.region ?_
    obtain ⟨r1, e1, hm⟩ := bind_some hm
    refine WL.quiet (Runs.free rfl) rfl rfl (oq_con (r := (.bool r1)) Tryd.call11 rfl rfl (fun w' s => ⟨_, (law03_awake_con   w' H s.hold hG r1 e1)⟩)) ?_
    refine WL.quiet (Runs.free rfl) rfl rfl (OV.quiet (ov_assign rfl rfl)) ?_
    refine WL.nil ?_
    refine then_normal ?_
    refine WP.ret ?_
    refine then_ret ?_
    obtain rfl := Option.some.inj hm
    refine retQ_ret Tryd.results3 (Res.tmp rfl Res.nil) rfl (fun w' s => ⟨s.below, ?_⟩)
    exact rfl
  · replace hm := ite_f hc1 hm
    refine WP.skip ?_
    refine then_normal ?_
    refine WP.seq ?_
    refine WP.region ?_
    refine WL.quiet (Runs.free rfl) rfl rfl (OV.quiet (ov_load_whole (i := 0) Tryd.isAgg23 Tryd.sizeOf23 rfl rfl rfl rfl)) ?_
    obtain ⟨r2, e2, hm⟩ := bind_some hm
    refine WL.quiet (Runs.free rfl) rfl rfl (oq_con (r := (.tuple #[(mkS r2.1), (.int .i64 r2.2)])) Tryd.call12 rfl rfl (fun w' s => ⟨_, (timespan_Format_con p_a  w' H s.hold hG r2 e2)⟩)) ?_
    refine WL.quiet (Runs.free rfl) rfl rfl (OV.quiet (ov_move rfl rfl)) ?_
    refine WL.quiet (Runs.free rfl) rfl rfl (OV.quiet (ov_extract rfl rfl rfl)) ?_
    refine WL.quiet (Runs.free rfl) rfl rfl (OV.quiet (ov_extract rfl rfl rfl)) ?_
    refine WL.quiet (Runs.free rfl) rfl rfl (OV.quiet (ov_assign rfl rfl)) ?_
    refine WL.quiet (Runs.free rfl) rfl rfl (OV.quiet (ov_assign rfl rfl)) ?_
    refine WL.nil ?_
    refine then_normal ?_
    refine WP.seq ?_
    refine WP.region ?_
    refine WL.quiet (Runs.free rfl) rfl rfl (OV.quiet (ov_load_whole (i := 0) Tryd.isAgg23 Tryd.sizeOf23 rfl rfl rfl rfl)) ?_
    obtain ⟨r3, e3, hm⟩ := bind_some hm
    refine WL.quiet (Runs.free rfl) rfl rfl (oq_con (r := (.tuple #[(mkS r3.1), (.int .i64 r3.2)])) Tryd.call13 rfl rfl (fun w' s => ⟨_, (ref03_Format_con p_a  w' H s.hold hG r3 e3)⟩)) ?_
    refine WL.quiet (Runs.free rfl) rfl rfl (OV.quiet (ov_move rfl rfl)) ?_
    refine WL.quiet (Runs.free rfl) rfl rfl (OV.quiet (ov_extract rfl rfl rfl)) ?_
    refine WL.quiet (Runs.free rfl) rfl rfl (OV.quiet (ov_extract rfl rfl rfl)) ?_
    refine WL.quiet (Runs.free rfl) rfl rfl (OV.quiet (ov_assign rfl rfl)) ?_
    refine WL.quiet (Runs.free rfl) rfl rfl (OV.quiet (ov_assign rfl rfl)) ?_
    refine WL.nil ?_
    refine then_normal ?_
    refine WP.seq ?_
    refine WP.region ?_
    refine WL.quiet (Runs.free rfl) rfl rfl (OV.quiet (ov_move rfl rfl)) ?_
    obtain ⟨r4, e4, hm⟩ := bind_some hm
    refine WL.quiet (Runs.free rfl) rfl rfl (oq_con (r := (.tuple #[(.agg #[(.int .i64 r4.1.low), (.int .i64 r4.1.high)]), (.int .i64 r4.2)])) Tryd.call14 rfl rfl (fun w' s => ⟨_, (timespan_Parse_con p_s  w' H s.hold hG r4 e4)⟩)) ?_
    refine WL.quiet (Runs.free rfl) rfl rfl (OV.quiet (ov_move rfl rfl)) ?_
    refine WL.quiet (Runs.free rfl) rfl rfl (OV.quiet (ov_extract rfl rfl rfl)) ?_
    refine WL.quiet (Runs.free rfl) rfl rfl (OV.quiet (ov_extract rfl rfl rfl)) ?_
    refine WL.step (Runs.free rfl) rfl rfl (os_alloc (cs := [(.int .i64 0), (.int .i64 0)]) Tryd.zeroValue23 rfl rfl (fun b2 => ?_))
    refine WL.step0 (Runs.free rfl) rfl (os_store (i := 0) (vs := [(.int .i64 r4.1.low), (.int .i64 r4.1.high)]) (cs' := [(.int .i64 r4.1.low), (.int .i64 r4.1.high)]) Tryd.sizeOf23 rfl rfl rfl rfl rfl rfl rfl rfl rfl ?_)
    refine WL.quiet (Runs.free rfl) rfl rfl (OV.quiet (ov_assign rfl rfl)) ?_
    refine WL.nil ?_
    refine then_normal ?_
    refine WP.seq ?_
    refine WP.region ?_
    refine WL.quiet (Runs.free rfl) rfl rfl (OV.quiet (ov_move rfl rfl)) ?_
    obtain ⟨r5, e5, hm⟩ := bind_some hm
    refine WL.quiet (Runs.free rfl) rfl rfl (oq_con (r := (.tuple #[(.agg #[(.int .i64 r5.1.low), (.int .i64 r5.1.high)]), (.int .i64 r5.2)])) Tryd.call15 rfl rfl (fun w' s => ⟨_, (ref03_Parse_con p_s  w' H s.hold hG r5 e5)⟩)) ?_
    refine WL.quiet (Runs.free rfl) rfl rfl (OV.quiet (ov_move rfl rfl)) ?_
    refine WL.quiet (Runs.free rfl) rfl rfl (OV.quiet (ov_extract rfl rfl rfl)) ?_
    refine WL.quiet (Runs.free rfl) rfl rfl (OV.quiet (ov_extract rfl rfl rfl)) ?_
    refine WL.step (Runs.free rfl) rfl rfl (os_alloc (cs := [(.int .i64 0), (.int .i64 0)]) Tryd.zeroValue23 rfl rfl (fun b3 => ?_))
    refine WL.step0 (Runs.free rfl) rfl (os_store (i := 0) (vs := [(.int .i64 r5.1.low), (.int .i64 r5.1.high)]) (cs' := [(.int .i64 r5.1.low), (.int .i64 r5.1.high)]) Tryd.sizeOf23 rfl rfl rfl rfl rfl rfl rfl rfl rfl ?_)
    refine WL.quiet (Runs.free rfl) rfl rfl (OV.quiet (ov_assign rfl rfl)) ?_
    refine WL.nil ?_
    refine then_normal ?_
    refine WP.seq ?_
    refine WP.region ?_
    refine WL.quiet (Runs.free rfl) rfl rfl (OV.quiet (ov_move rfl rfl)) ?_
    refine WL.quiet (Runs.free rfl) rfl rfl (OV.quiet (ov_move rfl rfl)) ?_
    refine WL.quiet (Runs.free rfl) rfl rfl (OV.quiet (ov_seql rfl rfl rfl)) ?_
    refine WL.quiet (Runs.free rfl) rfl rfl (OV.quiet (ov_move rfl rfl)) ?_
    refine WL.cut_bool 4 44 (x := ((r2.1 == r3.1) && (r2.2 == r3.2))) ?_ ?_
    · rcases Bool.eq_false_or_eq_true (r2.1 == r3.1) with hc2 | hc2
      · skip
        refine WL.quiet (Runs.yes rfl rfl rfl hc2) rfl rfl (OV.quiet (ov_move rfl rfl)) ?_
        refine WL.quiet (Runs.yes rfl rfl rfl hc2) rfl rfl (OV.quiet (ov_move rfl rfl)) ?_
        refine WL.quiet (Runs.yes rfl rfl rfl hc2) rfl rfl (OV.quiet (ov_eql rfl rfl rfl)) ?_
        refine WL.quiet (Runs.free rfl) rfl rfl (OV.quiet (ov_pick_true rfl (guard_eq rfl hc2) rfl)) ?_
        exact WL.nil ⟨Sub.cons' rfl (congrArg Value.bool (by rw [hc2]; rfl)) (Sub.skip rfl (Sub.skip rfl (Sub.skip rfl (Sub.skip rfl (Sub.refl _))))), fun _ s => s⟩
      · skip
        refine WL.idle (Idle.no rfl rfl rfl hc2) rfl rfl ?_
        refine WL.idle (Idle.no rfl rfl rfl hc2) rfl rfl ?_
        refine WL.idle (Idle.no rfl rfl rfl hc2) rfl rfl ?_
        refine WL.quiet (Runs.free rfl) rfl rfl (OV.quiet (ov_pick_false rfl (guard_eq rfl hc2) rfl)) ?_
        exact WL.nil ⟨Sub.cons' rfl (congrArg Value.bool (by rw [hc2]; rfl)) (Sub.skip rfl (Sub.skip rfl (Sub.skip rfl (Sub.skip rfl (Sub.refl _))))), fun _ s => s⟩
    refine WL.quiet (Runs.free rfl) rfl rfl (OV.quiet (ov_move rfl rfl)) ?_
    refine WL.cut_bool 4 49 (x := (((r2.1 == r3.1) && (r2.2 == r3.2)) && (r4.1 == r5.1))) ?_ ?_
    · rcases Bool.eq_false_or_eq_true ((r2.1 == r3.1) && (r2.2 == r3.2)) with hc3 | hc3
      · skip
        refine WL.quiet (Runs.yes rfl rfl rfl hc3) rfl rfl (OV.quiet (ov_load_whole (i := 1) Tryd.isAgg23 Tryd.sizeOf23 rfl rfl rfl rfl)) ?_
        refine WL.quiet (Runs.yes rfl rfl rfl hc3) rfl rfl (OV.quiet (ov_load_whole (i := 0) Tryd.isAgg23 Tryd.sizeOf23 rfl rfl rfl rfl)) ?_
        refine WL.quiet (Runs.yes rfl rfl rfl hc3) rfl rfl (OV.quiet (eql_struct23 rfl rfl rfl)) ?_
        refine WL.quiet (Runs.free rfl) rfl rfl (OV.quiet (ov_pick_true rfl (guard_eq rfl hc3) rfl)) ?_
        exact WL.nil ⟨Sub.cons' rfl (congrArg Value.bool (by rw [hc3]; rfl)) (Sub.skip rfl (Sub.skip rfl (Sub.skip rfl (Sub.skip rfl (Sub.refl _))))), fun _ s => s⟩
      · skip
        refine WL.idle (Idle.no rfl rfl rfl hc3) rfl rfl ?_
        refine WL.idle (Idle.no rfl rfl rfl hc3) rfl rfl ?_
        refine WL.idle (Idle.no rfl rfl rfl hc3) rfl rfl ?_
        refine WL.quiet (Runs.free rfl) rfl rfl (OV.quiet (ov_pick_false rfl (guard_eq rfl hc3) rfl)) ?_
        exact WL.nil ⟨Sub.cons' rfl (congrArg Value.bool (by rw [hc3]; rfl)) (Sub.skip rfl (Sub.skip rfl (Sub.skip rfl (Sub.skip rfl (Sub.refl _))))), fun _ s => s⟩
    refine WL.quiet (Runs.free rfl) rfl rfl (OV.quiet (ov_move rfl rfl)) ?_
    refine WL.cut_bool 4 54 (x := ((((r2.1 == r3.1) && (r2.2 == r3.2)) && (r4.1 == r5.1)) && (r4.2 == r5.2))) ?_ ?_
    · rcases Bool.eq_false_or_eq_true (((r2.1 == r3.1) && (r2.2 == r3.2)) && (r4.1 == r5.1)) with hc4 | hc4
      · skip
        refine WL.quiet (Runs.yes rfl rfl rfl hc4) rfl rfl (OV.quiet (ov_move rfl rfl)) ?_
        refine WL.quiet (Runs.yes rfl rfl rfl hc4) rfl rfl (OV.quiet (ov_move rfl rfl)) ?_
        refine WL.quiet (Runs.yes rfl rfl rfl hc4) rfl rfl (OV.quiet (ov_eql rfl rfl rfl)) ?_
        refine WL.quiet (Runs.free rfl) rfl rfl (OV.quiet (ov_pick_true rfl (guard_eq rfl hc4) rfl)) ?_
        exact WL.nil ⟨Sub.cons' rfl (congrArg Value.bool (by rw [hc4]; rfl)) (Sub.skip rfl (Sub.skip rfl (Sub.skip rfl (Sub.skip rfl (Sub.refl _))))), fun _ s => s⟩
      · skip
        refine WL.idle (Idle.no rfl rfl rfl hc4) rfl rfl ?_
        refine WL.idle (Idle.no rfl rfl rfl hc4) rfl rfl ?_
        refine WL.idle (Idle.no rfl rfl rfl hc4) rfl rfl ?_
        refine WL.quiet (Runs.free rfl) rfl rfl (OV.quiet (ov_pick_false rfl (guard_eq rfl hc4) rfl)) ?_
        exact WL.nil ⟨Sub.cons' rfl (congrArg Value.bool (by rw [hc4]; rfl)) (Sub.skip rfl (Sub.skip rfl (Sub.skip rfl (Sub.skip rfl (Sub.refl _))))), fun _ s => s⟩
    refine WL.quiet (Runs.free rfl) rfl rfl (OV.quiet (ov_move rfl rfl)) ?_
    obtain ⟨c1, e6, hm⟩ := bind_some hm
    refine WL.cut_bool 2 57 (x := c1) ?_ ?_
    · rcases Bool.eq_false_or_eq_true ((((r2.1 == r3.1) && (r2.2 == r3.2)) && (r4.1 == r5.1)) && (r4.2 == r5.2)) with hc5 | hc5
      · skip
        replace hm := ite_t hc5 e6
        obtain ⟨r6, e7, hm⟩ := bind_some hm
        refine WL.quiet (Runs.yes rfl rfl rfl hc5) rfl rfl (oq_con (r := (.bool r6)) Tryd.call11 rfl rfl (fun w' s => ⟨_, (law03_awake_con   w' H s.hold hG r6 e7)⟩)) ?_
        refine WL.quiet (Runs.free rfl) rfl rfl (OV.quiet (ov_pick_true rfl (guard_eq rfl hc5) rfl)) ?_
        exact WL.nil ⟨Sub.cons' rfl (congrArg Value.bool (Option.some.inj hm)) (Sub.skip rfl (Sub.skip rfl (Sub.refl _))), fun _ s => s⟩
      · skip
        replace hm := ite_f hc5 e6
        refine WL.idle (Idle.no rfl rfl rfl hc5) rfl rfl ?_
        refine WL.quiet (Runs.free rfl) rfl rfl (OV.quiet (ov_pick_false rfl (guard_eq rfl hc5) rfl)) ?_
        exact WL.nil ⟨Sub.cons' rfl (congrArg Value.bool (Option.some.inj hm)) (Sub.skip rfl (Sub.skip rfl (Sub.refl _))), fun _ s => s⟩
    refine WL.quiet (Runs.free rfl) rfl rfl (OV.quiet (ov_assign rfl rfl)) ?_
    refine WL.nil ?_
    refine then_normal ?_
    refine WP.ret ?_
    obtain rfl := Option.some.inj hm
    refine retQ_ret Tryd.results3 (Res.tmp rfl Res.nil) rfl (fun w' s => ⟨s.below, ?_⟩)
    exact rfl

theorem law03_TimespanCombines_con (p_a : Span) (p_b : Span) (p_by : B3) (w : World) (H : Heap) (hH : Le H (hp w)) (hG : Glob H) (r : Bool) (hm : law03_TimespanCombines p_a p_b p_by = some r) :
    Con Tryd.prog 4 [(.agg #[(.int .i64 p_a.low), (.int .i64 p_a.high)]), (.agg #[(.int .i64 p_b.low), (.int .i64 p_b.high)]), (.agg #[(.int .u16 p_by.a0), (.int .u16 p_by.a1), (.int .u16 p_by.a2)])] w H (fun v _ => v = (.bool r)) := by
  unfold law03_TimespanCombines at hm
  refine con_of hH Tryd.func4 rfl 134 Tryd.ntmps4 rfl ?_
  refine WP.seq ?_
  refine WP.region ?_
  refine WL.step (Runs.free rfl) rfl rfl (os_box (cs := [(.int .i64 p_a.low), (.int .i64 p_a.high)]) rfl rfl rfl (fun b1 => ?_))
  refine WL.step (Runs.free rfl) rfl rfl (os_box (cs := [(.int .i64 p_b.low), (.int .i64 p_b.high)]) rfl rfl rfl (fun b2 => ?_))
  refine WL.step (Runs.free rfl) rfl rfl (os_box (cs := [(.int .u16 p_by.a0), (.int .u16 p_by.a1), (.int .u16 p_by.a2)]) rfl rfl rfl (fun b3 => ?_))
  refine WL.quiet (Runs.free rfl) rfl rfl (OV.quiet (ov_assign rfl rfl)) ?_
  refine WL.nil ?_
  refine then_normal ?_
  refine WP.seq ?_
  refine WP.seq ?_
  refine WP.region ?_
  refine WL.quiet (Runs.free rfl) rfl rfl (OV.quiet (ov_load_whole (i := 2) Tryd.isAgg23 Tryd.sizeOf23 rfl rfl rfl rfl)) ?_
  refine WL.quiet (Runs.free rfl) rfl rfl (OV.quiet (ov_load_whole (i := 1) Tryd.isAgg23 Tryd.sizeOf23 rfl rfl rfl rfl)) ?_
  obtain ⟨r1, e1, hm⟩ := bind_some hm
  refine WL.quiet (Runs.free rfl) rfl rfl (oq_con (r := (.bool r1)) Tryd.call16 rfl rfl (fun w' s => ⟨_, (law03_right_con p_a p_b  w' H s.hold hG r1 e1)⟩)) ?_
  refine WL.quiet (Runs.free rfl) rfl rfl (OV.quiet (ov_not rfl rfl)) ?_
  refine WL.nil ?_
  refine then_normal ?_
  refine WP.cond rfl (fun hc1 => ?_) (fun hc1 => ?_)
  · replace hm := ite_t hc1 hm
    refine WP.seq ?_
    refine WP.region ?_
    obtain ⟨r2, e2, hm⟩ := bind_some hm
    refine WL.quiet (Runs.free rfl) rfl rfl (oq_con (r := (.bool r2)) Tryd.call11 rfl rfl (fun w' s => ⟨_, (law03_awake_con   w' H s.hold hG r2 e2)⟩)) ?_
    refine WL.quiet (Runs.free rfl) rfl rfl (OV.quiet (ov_assign rfl rfl)) ?_
    refine WL.nil ?_
    refine then_normal ?_
    refine WP.ret ?_
    refine then_ret ?_
    obtain rfl := Option.some.inj hm
    refine retQ_ret Tryd.results4 (Res.tmp rfl Res.nil) rfl (fun w' s => ⟨s.below, ?_⟩)
    exact rfl
  · replace hm := ite_f hc1 hm
    refine WP.skip ?_
    refine then_normal ?_
    refine WP.seq ?_
    refine WP.region_draws (by kernel_rfl) (by kernel_rfl) (fun _ s => s.drew) ?_
    refine QL.quiet (Runs.free rfl) rfl rfl (OV.quiet (ov_fieldAddr Tryd.underlying23 rfl rfl rfl Tryd.sizeOf3 rfl rfl)) ?_
    refine QL.quiet (Runs.free rfl) rfl rfl (OV.quiet (ov_load_box (i := 2) Tryd.isAgg3 rfl rfl rfl rfl)) ?_
    refine QL.quiet (Runs.free rfl) rfl rfl (OV.quiet (ov_indexAddr_arr Tryd.underlying36 Tryd.sizeOf35 rfl rfl rfl (by decide) (by decide))) ?_
    refine QL.quiet (Runs.free rfl) rfl rfl (OV.quiet (ov_load_box (i := 0) Tryd.isAgg35 rfl rfl rfl rfl)) ?_
    refine QL.quiet (Runs.free rfl) rfl rfl (OV.quiet (ov_convert_int Tryd.underlying35 Tryd.underlying3 rfl rfl)) ?_
    refine QL.quiet (Runs.free rfl) rfl rfl (OV.quiet (ov_fieldAddr Tryd.underlying23 rfl rfl rfl Tryd.sizeOf3 rfl rfl)) ?_
    refine QL.quiet (Runs.free rfl) rfl rfl (OV.quiet (ov_load_box (i := 2) Tryd.isAgg3 rfl rfl rfl rfl)) ?_
    refine QL.quiet (Runs.free rfl) rfl rfl (OV.quiet (ov_fieldAddr Tryd.underlying23 rfl rfl rfl Tryd.sizeOf3 rfl rfl)) ?_
    refine QL.quiet (Runs.free rfl) rfl rfl (OV.quiet (ov_load_box (i := 2) Tryd.isAgg3 rfl rfl rfl rfl)) ?_
    refine QL.quiet (Runs.free rfl) rfl rfl (OV.quiet (ov_sub rfl rfl rfl)) ?_
    refine QL.quiet (Runs.free rfl) rfl rfl (OV.quiet (ov_add rfl rfl rfl)) ?_
    obtain ⟨u1, e3, hm⟩ := bind_some hm
    replace e3 := guardO_some e3
    refine QL.quiet (Runs.free rfl) rfl rfl (OV.quiet (ov_rem rfl rfl rfl (by simpa using e3))) ?_
    refine QL.quiet (Runs.free rfl) rfl rfl (OV.quiet (ov_add rfl rfl rfl)) ?_
    refine QL.quiet (Runs.free rfl) rfl rfl (OV.quiet (ov_fieldAddr Tryd.underlying23 rfl rfl rfl Tryd.sizeOf3 rfl rfl)) ?_
    refine QL.quiet (Runs.free rfl) rfl rfl (OV.quiet (ov_load_box (i := 1) Tryd.isAgg3 rfl rfl rfl rfl)) ?_
    refine QL.quiet (Runs.free rfl) rfl rfl (OV.quiet (ov_indexAddr_arr Tryd.underlying36 Tryd.sizeOf35 rfl rfl rfl (by decide) (by decide))) ?_
    refine QL.quiet (Runs.free rfl) rfl rfl (OV.quiet (ov_load_box (i := 0) Tryd.isAgg35 rfl rfl rfl rfl)) ?_
    refine QL.quiet (Runs.free rfl) rfl rfl (OV.quiet (ov_convert_int Tryd.underlying35 Tryd.underlying3 rfl rfl)) ?_
    refine QL.quiet (Runs.free rfl) rfl rfl (OV.quiet (ov_fieldAddr Tryd.underlying23 rfl rfl rfl Tryd.sizeOf3 rfl rfl)) ?_
    refine QL.quiet (Runs.free rfl) rfl rfl (OV.quiet (ov_load_box (i := 1) Tryd.isAgg3 rfl rfl rfl rfl)) ?_
    refine QL.quiet (Runs.free rfl) rfl rfl (OV.quiet (ov_fieldAddr Tryd.underlying23 rfl rfl rfl Tryd.sizeOf3 rfl rfl)) ?_
    refine QL.quiet (Runs.free rfl) rfl rfl (OV.quiet (ov_load_box (i := 1) Tryd.isAgg3 rfl rfl rfl rfl)) ?_
    refine QL.quiet (Runs.free rfl) rfl rfl (OV.quiet (ov_sub rfl rfl rfl)) ?_
    refine QL.quiet (Runs.free rfl) rfl rfl (OV.quiet (ov_add rfl rfl rfl)) ?_
    obtain ⟨u2, e4, hm⟩ := bind_some hm
    replace e4 := guardO_some e4
    refine QL.quiet (Runs.free rfl) rfl rfl (OV.quiet (ov_rem rfl rfl rfl (by simpa using e4))) ?_
    refine QL.quiet (Runs.free rfl) rfl rfl (OV.quiet (ov_add rfl rfl rfl)) ?_
    refine QL.quiet (Runs.free rfl) rfl rfl (OV.quiet (ov_assign rfl rfl)) ?_
    refine QL.quiet (Runs.free rfl) rfl rfl (OV.quiet (ov_assign rfl rfl)) ?_
    refine QL.nil ?_
    refine then_normal ?_
    refine WP.seq ?_
    refine WP.region ?_
    refine WL.quiet (Runs.free rfl) rfl rfl (OV.quiet (ov_load_whole (i := 2) Tryd.isAgg23 Tryd.sizeOf23 rfl rfl rfl rfl)) ?_
    refine WL.quiet (Runs.free rfl) rfl rfl (OV.quiet (ov_load_whole (i := 1) Tryd.isAgg23 Tryd.sizeOf23 rfl rfl rfl rfl)) ?_
    obtain ⟨r3, e5, hm⟩ := bind_some hm
    refine WL.quiet (Runs.free rfl) rfl rfl (oq_con (r := (.tuple #[(.agg #[(.int .i64 r3.1.low), (.int .i64 r3.1.high)]), (.int .i64 r3.2)])) Tryd.call17 rfl rfl (fun w' s => ⟨_, (timespan_Add_con p_a p_b  w' H s.hold hG r3 e5)⟩)) ?_
    refine WL.quiet (Runs.free rfl) rfl rfl (OV.quiet (ov_move rfl rfl)) ?_
    refine WL.quiet (Runs.free rfl) rfl rfl (OV.quiet (ov_extract rfl rfl rfl)) ?_
    refine WL.quiet (Runs.free rfl) rfl rfl (OV.quiet (ov_extract rfl rfl rfl)) ?_
    refine WL.step (Runs.free rfl) rfl rfl (os_alloc (cs := [(.int .i64 0), (.int .i64 0)]) Tryd.zeroValue23 rfl rfl (fun b4 => ?_))
    refine WL.step0 (Runs.free rfl) rfl (os_store (i := 0) (vs := [(.int .i64 r3.1.low), (.int .i64 r3.1.high)]) (cs' := [(.int .i64 r3.1.low), (.int .i64 r3.1.high)]) Tryd.sizeOf23 rfl rfl rfl rfl rfl rfl rfl rfl rfl ?_)
    refine WL.quiet (Runs.free rfl) rfl rfl (OV.quiet (ov_assign rfl rfl)) ?_
    refine WL.nil ?_
    refine then_normal ?_
    refine WP.seq ?_
    refine WP.region ?_
    refine WL.quiet (Runs.free rfl) rfl rfl (OV.quiet (ov_load_whole (i := 3) Tryd.isAgg23 Tryd.sizeOf23 rfl rfl rfl rfl)) ?_
    refine WL.quiet (Runs.free rfl) rfl rfl (OV.quiet (ov_load_whole (i := 2) Tryd.isAgg23 Tryd.sizeOf23 rfl rfl rfl rfl)) ?_
    obtain ⟨r4, e6, hm⟩ := bind_some hm
    refine WL.quiet (Runs.free rfl) rfl rfl (oq_con (r := (.tuple #[(.agg #[(.int .i64 r4.1.low), (.int .i64 r4.1.high)]), (.int .i64 r4.2)])) Tryd.call18 rfl rfl (fun w' s => ⟨_, (timespan_Later_con p_a p_b  w' H s.hold hG r4 e6)⟩)) ?_
    refine WL.quiet (Runs.free rfl) rfl rfl (OV.quiet (ov_move rfl rfl)) ?_
    refine WL.quiet (Runs.free rfl) rfl rfl (OV.quiet (ov_extract rfl rfl rfl)) ?_
    refine WL.quiet (Runs.free rfl) rfl rfl (OV.quiet (ov_extract rfl rfl rfl)) ?_
    refine WL.step (Runs.free rfl) rfl rfl (os_alloc (cs := [(.int .i64 0), (.int .i64 0)]) Tryd.zeroValue23 rfl rfl (fun b5 => ?_))
    refine WL.step0 (Runs.free rfl) rfl (os_store (i := 0) (vs := [(.int .i64 r4.1.low), (.int .i64 r4.1.high)]) (cs' := [(.int .i64 r4.1.low), (.int .i64 r4.1.high)]) Tryd.sizeOf23 rfl rfl rfl rfl rfl rfl rfl rfl rfl ?_)
    refine WL.quiet (Runs.free rfl) rfl rfl (OV.quiet (ov_assign rfl rfl)) ?_
    refine WL.nil ?_
    refine then_normal ?_
    refine WP.seq ?_
    refine WP.region ?_
    refine WL.quiet (Runs.free rfl) rfl rfl (OV.quiet (ov_load_whole (i := 4) Tryd.isAgg23 Tryd.sizeOf23 rfl rfl rfl rfl)) ?_
    refine WL.quiet (Runs.free rfl) rfl rfl (OV.quiet (ov_load_whole (i := 3) Tryd.isAgg23 Tryd.sizeOf23 rfl rfl rfl rfl)) ?_
    obtain ⟨r5, e7, hm⟩ := bind_some hm
    refine WL.quiet (Runs.free rfl) rfl rfl (oq_con (r := (.tuple #[(.agg #[(.int .i64 r5.1.low), (.int .i64 r5.1.high)]), (.int .i64 r5.2)])) Tryd.call19 rfl rfl (fun w' s => ⟨_, (timespan_Earlier_con p_a p_b  w' H s.hold hG r5 e7)⟩)) ?_
    refine WL.quiet (Runs.free rfl) rfl rfl (OV.quiet (ov_move rfl rfl)) ?_
    refine WL.quiet (Runs.free rfl) rfl rfl (OV.quiet (ov_extract rfl rfl rfl)) ?_
    refine WL.quiet (Runs.free rfl) rfl rfl (OV.quiet (ov_extract rfl rfl rfl)) ?_
    refine WL.step (Runs.free rfl) rfl rfl (os_alloc (cs := [(.int .i64 0), (.int .i64 0)]) Tryd.zeroValue23 rfl rfl (fun b6 => ?_))
    refine WL.step0 (Runs.free rfl) rfl (os_store (i := 0) (vs := [(.int .i64 r5.1.low), (.int .i64 r5.1.high)]) (cs' := [(.int .i64 r5.1.low), (.int .i64 r5.1.high)]) Tryd.sizeOf23 rfl rfl rfl rfl rfl rfl rfl rfl rfl ?_)
    refine WL.quiet (Runs.free rfl) rfl rfl (OV.quiet (ov_assign rfl rfl)) ?_
    refine WL.nil ?_
    refine then_normal ?_
    refine WP.seq ?_
    refine WP.seq ?_
    refine WP.region ?_
    refine WL.quiet (Runs.free rfl) rfl rfl (OV.quiet (ov_move rfl rfl)) ?_
    refine WL.quiet (Runs.free rfl) rfl rfl (OV.quiet (ov_move rfl rfl)) ?_
    refine WL.quiet (Runs.free rfl) rfl rfl (OV.quiet (ov_add rfl rfl rfl)) ?_
    refine WL.quiet (Runs.free rfl) rfl rfl (OV.quiet (ov_move rfl rfl)) ?_
    refine WL.quiet (Runs.free rfl) rfl rfl (OV.quiet (ov_add rfl rfl rfl)) ?_
    refine WL.quiet (Runs.free rfl) rfl rfl (OV.quiet (ov_neq rfl rfl rfl)) ?_
    refine WL.quiet (Runs.free rfl) rfl rfl (OV.quiet (ov_move rfl rfl)) ?_
    obtain ⟨c1, e8, hm⟩ := bind_some hm
    refine WL.cut_bool 7 79 (x := c1) ?_ ?_
    · rcases Bool.eq_false_or_eq_true ((IntKind.wrap .i64 ((IntKind.wrap .i64 (r3.2 + r4.2)) + r5.2)) != 0) with hc2 | hc2
      · skip
        replace hm := ite_t hc2 e8
        refine WL.idle (Idle.no rfl rfl rfl hc2) rfl rfl ?_
        refine WL.idle (Idle.no rfl rfl rfl hc2) rfl rfl ?_
        refine WL.idle (Idle.no rfl rfl rfl hc2) rfl rfl ?_
        refine WL.idle (Idle.no rfl rfl rfl hc2) rfl rfl ?_
        refine WL.idle (Idle.no rfl rfl rfl hc2) rfl rfl ?_
        refine WL.idle (Idle.no rfl rfl rfl hc2) rfl rfl ?_
        refine WL.quiet (Runs.free rfl) rfl rfl (OV.quiet (ov_pick_true rfl (guard_eq rfl hc2) rfl)) ?_
        exact WL.nil ⟨Sub.cons' rfl (congrArg Value.bool (Option.some.inj hm)) (Sub.skip rfl (Sub.skip rfl (Sub.skip rfl (Sub.skip rfl (Sub.skip rfl (Sub.skip rfl (Sub.skip rfl (Sub.refl _)))))))), fun _ s => s⟩
      · skip
        replace hm := ite_f hc2 e8
        refine WL.quiet (Runs.yes rfl rfl rfl hc2) rfl rfl (OV.quiet (ov_load_whole (i := 2) Tryd.isAgg23 Tryd.sizeOf23 rfl rfl rfl rfl)) ?_
        refine WL.quiet (Runs.yes rfl rfl rfl hc2) rfl rfl (OV.quiet (ov_move rfl rfl)) ?_
        refine WL.quiet (Runs.yes rfl rfl rfl hc2) rfl rfl (OV.quiet (ov_move rfl rfl)) ?_
        refine WL.quiet (Runs.yes rfl rfl rfl hc2) rfl rfl (OV.quiet (ov_add rfl rfl rfl)) ?_
        obtain ⟨r6, e9, hm⟩ := bind_some hm
        refine WL.quiet (Runs.yes rfl rfl rfl hc2) rfl rfl (oq_con (r := (.bool r6)) Tryd.call20 rfl rfl (fun w' s => ⟨_, (ref03_Has_con r3.1 (IntKind.wrap .i64 ((IntKind.wrap .i64 (p_a.low + (Int.tmod (IntKind.wrap .i64 p_by.a0) (IntKind.wrap .i64 ((IntKind.wrap .i64 (p_a.high - p_a.low)) + 1))))) + (IntKind.wrap .i64 (p_b.low + (Int.tmod (IntKind.wrap .i64 p_by.a1) (IntKind.wrap .i64 ((IntKind.wrap .i64 (p_b.high - p_b.low)) + 1)))))))  w' H s.hold hG r6 e9)⟩)) ?_
        refine WL.quiet (Runs.yes rfl rfl rfl hc2) rfl rfl (OV.quiet (ov_not rfl rfl)) ?_
        refine WL.quiet (Runs.free rfl) rfl rfl (OV.quiet (ov_pick_false rfl (guard_eq rfl hc2) rfl)) ?_
        exact WL.nil ⟨Sub.cons' rfl (congrArg Value.bool (Option.some.inj hm)) (Sub.skip rfl (Sub.skip rfl (Sub.skip rfl (Sub.skip rfl (Sub.skip rfl (Sub.skip rfl (Sub.skip rfl (Sub.refl _)))))))), fun _ s => s⟩
    refine WL.quiet (Runs.free rfl) rfl rfl (OV.quiet (ov_move rfl rfl)) ?_
    obtain ⟨c2, e10, hm⟩ := bind_some hm
    refine WL.cut_bool 7 87 (x := c2) ?_ ?_
    · rcases Bool.eq_false_or_eq_true c1 with hc3 | hc3
      · skip
        replace hm := ite_t hc3 e10
        refine WL.idle (Idle.no rfl rfl rfl hc3) rfl rfl ?_
        refine WL.idle (Idle.no rfl rfl rfl hc3) rfl rfl ?_
        refine WL.idle (Idle.no rfl rfl rfl hc3) rfl rfl ?_
        refine WL.idle (Idle.no rfl rfl rfl hc3) rfl rfl ?_
        refine WL.idle (Idle.no rfl rfl rfl hc3) rfl rfl ?_
        refine WL.idle (Idle.no rfl rfl rfl hc3) rfl rfl ?_
        refine WL.quiet (Runs.free rfl) rfl rfl (OV.quiet (ov_pick_true rfl (guard_eq rfl hc3) rfl)) ?_
        exact WL.nil ⟨Sub.cons' rfl (congrArg Value.bool (Option.some.inj hm)) (Sub.skip rfl (Sub.skip rfl (Sub.skip rfl (Sub.skip rfl (Sub.skip rfl (Sub.skip rfl (Sub.skip rfl (Sub.refl _)))))))), fun _ s => s⟩
      · skip
        replace hm := ite_f hc3 e10
        refine WL.quiet (Runs.yes rfl rfl rfl hc3) rfl rfl (OV.quiet (ov_load_whole (i := 1) Tryd.isAgg23 Tryd.sizeOf23 rfl rfl rfl rfl)) ?_
        refine WL.quiet (Runs.yes rfl rfl rfl hc3) rfl rfl (OV.quiet (ov_move rfl rfl)) ?_
        refine WL.quiet (Runs.yes rfl rfl rfl hc3) rfl rfl (OV.quiet (ov_move rfl rfl)) ?_
        refine WL.quiet (Runs.yes rfl rfl rfl hc3) rfl rfl (OV.quiet (ov_max rfl rfl rfl)) ?_
        obtain ⟨r7, e11, hm⟩ := bind_some hm
        refine WL.quiet (Runs.yes rfl rfl rfl hc3) rfl rfl (oq_con (r := (.bool r7)) Tryd.call20 rfl rfl (fun w' s => ⟨_, (ref03_Has_con r4.1 (if (IntKind.wrap .i64 (p_b.low + (Int.tmod (IntKind.wrap .i64 p_by.a1) (IntKind.wrap .i64 ((IntKind.wrap .i64 (p_b.high - p_b.low)) + 1))))) > (IntKind.wrap .i64 (p_a.low + (Int.tmod (IntKind.wrap .i64 p_by.a0) (IntKind.wrap .i64 ((IntKind.wrap .i64 (p_a.high - p_a.low)) + 1))))) then (IntKind.wrap .i64 (p_b.low + (Int.tmod (IntKind.wrap .i64 p_by.a1) (IntKind.wrap .i64 ((IntKind.wrap .i64 (p_b.high - p_b.low)) + 1))))) else (IntKind.wrap .i64 (p_a.low + (Int.tmod (IntKind.wrap .i64 p_by.a0) (IntKind.wrap .i64 ((IntKind.wrap .i64 (p_a.high - p_a.low)) + 1))))))  w' H s.hold hG r7 e11)⟩)) ?_
        refine WL.quiet (Runs.yes rfl rfl rfl hc3) rfl rfl (OV.quiet (ov_not rfl rfl)) ?_
        refine WL.quiet (Runs.free rfl) rfl rfl (OV.quiet (ov_pick_false rfl (guard_eq rfl hc3) rfl)) ?_
        exact WL.nil ⟨Sub.cons' rfl (congrArg Value.bool (Option.some.inj hm)) (Sub.skip rfl (Sub.skip rfl (Sub.skip rfl (Sub.skip rfl (Sub.skip rfl (Sub.skip rfl (Sub.skip rfl (Sub.refl _)))))))), fun _ s => s⟩
    refine WL.quiet (Runs.free rfl) rfl rfl (OV.quiet (ov_move rfl rfl)) ?_
    obtain ⟨c3, e12, hm⟩ := bind_some hm
    refine WL.cut_bool 7 95 (x := c3) ?_ ?_
    · rcases Bool.eq_false_or_eq_true c2 with hc4 | hc4
      · skip
        replace hm := ite_t hc4 e12
        refine WL.idle (Idle.no rfl rfl rfl hc4) rfl rfl ?_
        refine WL.idle (Idle.no rfl rfl rfl hc4) rfl rfl ?_
        refine WL.idle (Idle.no rfl rfl rfl hc4) rfl rfl ?_
        refine WL.idle (Idle.no rfl rfl rfl hc4) rfl rfl ?_
        refine WL.idle (Idle.no rfl rfl rfl hc4) rfl rfl ?_
        refine WL.idle (Idle.no rfl rfl rfl hc4) rfl rfl ?_
        refine WL.quiet (Runs.free rfl) rfl rfl (OV.quiet (ov_pick_true rfl (guard_eq rfl hc4) rfl)) ?_
        exact WL.nil ⟨Sub.cons' rfl (congrArg Value.bool (Option.some.inj hm)) (Sub.skip rfl (Sub.skip rfl (Sub.skip rfl (Sub.skip rfl (Sub.skip rfl (Sub.skip rfl (Sub.skip rfl (Sub.refl _)))))))), fun _ s => s⟩
      · skip
        replace hm := ite_f hc4 e12
        refine WL.quiet (Runs.yes rfl rfl rfl hc4) rfl rfl (OV.quiet (ov_load_whole (i := 0) Tryd.isAgg23 Tryd.sizeOf23 rfl rfl rfl rfl)) ?_
        refine WL.quiet (Runs.yes rfl rfl rfl hc4) rfl rfl (OV.quiet (ov_move rfl rfl)) ?_
        refine WL.quiet (Runs.yes rfl rfl rfl hc4) rfl rfl (OV.quiet (ov_move rfl rfl)) ?_
        refine WL.quiet (Runs.yes rfl rfl rfl hc4) rfl rfl (OV.quiet (ov_min rfl rfl rfl)) ?_
        obtain ⟨r8, e13, hm⟩ := bind_some hm
        refine WL.quiet (Runs.yes rfl rfl rfl hc4) rfl rfl (oq_con (r := (.bool r8)) Tryd.call20 rfl rfl (fun w' s => ⟨_, (ref03_Has_con r5.1 (if (IntKind.wrap .i64 (p_b.low + (Int.tmod (IntKind.wrap .i64 p_by.a1) (IntKind.wrap .i64 ((IntKind.wrap .i64 (p_b.high - p_b.low)) + 1))))) < (IntKind.wrap .i64 (p_a.low + (Int.tmod (IntKind.wrap .i64 p_by.a0) (IntKind.wrap .i64 ((IntKind.wrap .i64 (p_a.high - p_a.low)) + 1))))) then (IntKind.wrap .i64 (p_b.low + (Int.tmod (IntKind.wrap .i64 p_by.a1) (IntKind.wrap .i64 ((IntKind.wrap .i64 (p_b.high - p_b.low)) + 1))))) else (IntKind.wrap .i64 (p_a.low + (Int.tmod (IntKind.wrap .i64 p_by.a0) (IntKind.wrap .i64 ((IntKind.wrap .i64 (p_a.high - p_a.low)) + 1))))))  w' H s.hold hG r8 e13)⟩)) ?_
        refine WL.quiet (Runs.yes rfl rfl rfl hc4) rfl rfl (OV.quiet (ov_not rfl rfl)) ?_
        refine WL.quiet (Runs.free rfl) rfl rfl (OV.quiet (ov_pick_false rfl (guard_eq rfl hc4) rfl)) ?_
        exact WL.nil ⟨Sub.cons' rfl (congrArg Value.bool (Option.some.inj hm)) (Sub.skip rfl (Sub.skip rfl (Sub.skip rfl (Sub.skip rfl (Sub.skip rfl (Sub.skip rfl (Sub.skip rfl (Sub.refl _)))))))), fun _ s => s⟩
    refine WL.quiet (Runs.free rfl) rfl rfl (OV.quiet (ov_move rfl rfl)) ?_
    obtain ⟨c4, e14, hm⟩ := bind_some hm
    refine WL.cut_bool 4 100 (x := c4) ?_ ?_
    · rcases Bool.eq_false_or_eq_true c3 with hc5 | hc5
      · skip
        replace hm := ite_t hc5 e14
        refine WL.idle (Idle.no rfl rfl rfl hc5) rfl rfl ?_
        refine WL.idle (Idle.no rfl rfl rfl hc5) rfl rfl ?_
        refine WL.idle (Idle.no rfl rfl rfl hc5) rfl rfl ?_
        refine WL.quiet (Runs.free rfl) rfl rfl (OV.quiet (ov_pick_true rfl (guard_eq rfl hc5) rfl)) ?_
        exact WL.nil ⟨Sub.cons' rfl (congrArg Value.bool (Option.some.inj hm)) (Sub.skip rfl (Sub.skip rfl (Sub.skip rfl (Sub.skip rfl (Sub.refl _))))), fun _ s => s⟩
      · skip
        replace hm := ite_f hc5 e14
        refine WL.quiet (Runs.yes rfl rfl rfl hc5) rfl rfl (OV.quiet (ov_load_whole (i := 2) Tryd.isAgg23 Tryd.sizeOf23 rfl rfl rfl rfl)) ?_
        obtain ⟨r9, e15, hm⟩ := bind_some hm
        refine WL.quiet (Runs.yes rfl rfl rfl hc5) rfl rfl (oq_con (r := (.int .i64 r9)) Tryd.call21 rfl rfl (fun w' s => ⟨_, (ref03_Check_con r3.1  w' H s.hold hG r9 e15)⟩)) ?_
        refine WL.quiet (Runs.yes rfl rfl rfl hc5) rfl rfl (OV.quiet (ov_neq rfl rfl rfl)) ?_
        refine WL.quiet (Runs.free rfl) rfl rfl (OV.quiet (ov_pick_false rfl (guard_eq rfl hc5) rfl)) ?_
        exact WL.nil ⟨Sub.cons' rfl (congrArg Value.bool (Option.some.inj hm)) (Sub.skip rfl (Sub.skip rfl (Sub.skip rfl (Sub.skip rfl (Sub.refl _))))), fun _ s => s⟩
    refine WL.nil ?_
    refine then_normal ?_
    refine WP.cond rfl (fun hc6 => ?_) (fun hc6 => ?_)
    · replace hm := ite_t hc6 hm
      refine WP.seq ?_
      refine WP.region ?_
      refine WL.quiet (Runs.free rfl) rfl rfl (OV.quiet (ov_assign rfl rfl)) ?_
      refine WL.nil ?_
      refine then_normal ?_
      refine WP.ret ?_
      refine then_ret ?_
      obtain rfl := Option.some.inj hm
      refine retQ_ret Tryd.results4 (Res.tmp rfl Res.nil) rfl (fun w' s => ⟨s.below, ?_⟩)
      exact rfl
    · replace hm := ite_f hc6 hm
      refine WP.skip ?_
      refine then_normal ?_
      refine WP.seq ?_
      refine WP.region_draws (by kernel_rfl) (by kernel_rfl) (fun _ s => s.drew) ?_
      refine QL.quiet (Runs.free rfl) rfl rfl (OV.quiet (ov_fieldAddr Tryd.underlying23 rfl rfl rfl Tryd.sizeOf3 rfl rfl)) ?_
      refine QL.quiet (Runs.free rfl) rfl rfl (OV.quiet (ov_load_box (i := 2) Tryd.isAgg3 rfl rfl rfl rfl)) ?_
      refine QL.quiet (Runs.free rfl) rfl rfl (OV.quiet (ov_indexAddr_arr Tryd.underlying36 Tryd.sizeOf35 rfl rfl rfl (by decide) (by decide))) ?_
      refine QL.quiet (Runs.free rfl) rfl rfl (OV.quiet (ov_load_box (i := 3) Tryd.isAgg35 rfl rfl rfl rfl)) ?_
      refine QL.quiet (Runs.free rfl) rfl rfl (OV.quiet (ov_convert_int Tryd.underlying35 Tryd.underlying3 rfl rfl)) ?_
      refine QL.quiet (Runs.free rfl) rfl rfl (OV.quiet (ov_fieldAddr Tryd.underlying23 rfl rfl rfl Tryd.sizeOf3 rfl rfl)) ?_
      refine QL.quiet (Runs.free rfl) rfl rfl (OV.quiet (ov_load_box (i := 2) Tryd.isAgg3 rfl rfl rfl rfl)) ?_
      refine QL.quiet (Runs.free rfl) rfl rfl (OV.quiet (ov_fieldAddr Tryd.underlying23 rfl rfl rfl Tryd.sizeOf3 rfl rfl)) ?_
      refine QL.quiet (Runs.free rfl) rfl rfl (OV.quiet (ov_load_box (i := 2) Tryd.isAgg3 rfl rfl rfl rfl)) ?_
      refine QL.quiet (Runs.free rfl) rfl rfl (OV.quiet (ov_sub rfl rfl rfl)) ?_
      refine QL.quiet (Runs.free rfl) rfl rfl (OV.quiet (ov_add rfl rfl rfl)) ?_
      obtain ⟨u3, e16, hm⟩ := bind_some hm
      replace e16 := guardO_some e16
      refine QL.quiet (Runs.free rfl) rfl rfl (OV.quiet (ov_rem rfl rfl rfl (by simpa using e16))) ?_
      refine QL.quiet (Runs.free rfl) rfl rfl (OV.quiet (ov_add rfl rfl rfl)) ?_
      refine QL.quiet (Runs.free rfl) rfl rfl (OV.quiet (ov_assign rfl rfl)) ?_
      refine QL.nil ?_
      refine then_normal ?_
      refine WP.seq ?_
      refine WP.region ?_
      refine WL.quiet (Runs.free rfl) rfl rfl (OV.quiet (ov_fieldAddr Tryd.underlying23 rfl rfl rfl Tryd.sizeOf3 rfl rfl)) ?_
      refine WL.quiet (Runs.free rfl) rfl rfl (OV.quiet (ov_load_box (i := 5) Tryd.isAgg3 rfl rfl rfl rfl)) ?_
      refine WL.quiet (Runs.free rfl) rfl rfl (OV.quiet (ov_move rfl rfl)) ?_
      refine WL.quiet (Runs.free rfl) rfl rfl (OV.quiet (ov_fieldAddr Tryd.underlying23 rfl rfl rfl Tryd.sizeOf3 rfl rfl)) ?_
      refine WL.quiet (Runs.free rfl) rfl rfl (OV.quiet (ov_load_box (i := 4) Tryd.isAgg3 rfl rfl rfl rfl)) ?_
      refine WL.quiet (Runs.free rfl) rfl rfl (OV.quiet (ov_sub rfl rfl rfl)) ?_
      refine WL.quiet (Runs.free rfl) rfl rfl (OV.quiet (ov_max rfl rfl rfl)) ?_
      refine WL.quiet (Runs.free rfl) rfl rfl (OV.quiet (ov_assign rfl rfl)) ?_
      refine WL.nil ?_
      refine then_normal ?_
      refine WP.seq ?_
      refine WP.region ?_
      refine WL.quiet (Runs.free rfl) rfl rfl (OV.quiet (ov_load_whole (i := 5) Tryd.isAgg23 Tryd.sizeOf23 rfl rfl rfl rfl)) ?_
      refine WL.quiet (Runs.free rfl) rfl rfl (OV.quiet (ov_move rfl rfl)) ?_
      obtain ⟨r10, e17, hm⟩ := bind_some hm
      refine WL.quiet (Runs.free rfl) rfl rfl (oq_con (r := (.bool r10)) Tryd.call20 rfl rfl (fun w' s => ⟨_, (ref03_Has_con p_a (if (IntKind.wrap .i64 ((IntKind.wrap .i64 (r3.1.low + (Int.tmod (IntKind.wrap .i64 p_by.a2) (IntKind.wrap .i64 ((IntKind.wrap .i64 (r3.1.high - r3.1.low)) + 1))))) - p_b.high)) > p_a.low then (IntKind.wrap .i64 ((IntKind.wrap .i64 (r3.1.low + (Int.tmod (IntKind.wrap .i64 p_by.a2) (IntKind.wrap .i64 ((IntKind.wrap .i64 (r3.1.high - r3.1.low)) + 1))))) - p_b.high)) else p_a.low)  w' H s.hold hG r10 e17)⟩)) ?_
      refine WL.quiet (Runs.free rfl) rfl rfl (OV.quiet (ov_move rfl rfl)) ?_
      obtain ⟨c5, e18, hm⟩ := bind_some hm
      refine WL.cut_bool 6 130 (x := c5) ?_ ?_
      · rcases Bool.eq_false_or_eq_true r10 with hc7 | hc7
        · skip
          replace hm := ite_t hc7 e18
          refine WL.quiet (Runs.yes rfl rfl rfl hc7) rfl rfl (OV.quiet (ov_load_whole (i := 4) Tryd.isAgg23 Tryd.sizeOf23 rfl rfl rfl rfl)) ?_
          refine WL.quiet (Runs.yes rfl rfl rfl hc7) rfl rfl (OV.quiet (ov_move rfl rfl)) ?_
          refine WL.quiet (Runs.yes rfl rfl rfl hc7) rfl rfl (OV.quiet (ov_move rfl rfl)) ?_
          refine WL.quiet (Runs.yes rfl rfl rfl hc7) rfl rfl (OV.quiet (ov_sub rfl rfl rfl)) ?_
          obtain ⟨r11, e19, hm⟩ := bind_some hm
          refine WL.quiet (Runs.yes rfl rfl rfl hc7) rfl rfl (oq_con (r := (.bool r11)) Tryd.call20 rfl rfl (fun w' s => ⟨_, (ref03_Has_con p_b (IntKind.wrap .i64 ((IntKind.wrap .i64 (r3.1.low + (Int.tmod (IntKind.wrap .i64 p_by.a2) (IntKind.wrap .i64 ((IntKind.wrap .i64 (r3.1.high - r3.1.low)) + 1))))) - (if (IntKind.wrap .i64 ((IntKind.wrap .i64 (r3.1.low + (Int.tmod (IntKind.wrap .i64 p_by.a2) (IntKind.wrap .i64 ((IntKind.wrap .i64 (r3.1.high - r3.1.low)) + 1))))) - p_b.high)) > p_a.low then (IntKind.wrap .i64 ((IntKind.wrap .i64 (r3.1.low + (Int.tmod (IntKind.wrap .i64 p_by.a2) (IntKind.wrap .i64 ((IntKind.wrap .i64 (r3.1.high - r3.1.low)) + 1))))) - p_b.high)) else p_a.low)))  w' H s.hold hG r11 e19)⟩)) ?_
          refine WL.quiet (Runs.free rfl) rfl rfl (OV.quiet (ov_pick_true rfl (guard_eq rfl hc7) rfl)) ?_
          exact WL.nil ⟨Sub.cons' rfl (congrArg Value.bool (Option.some.inj hm)) (Sub.skip rfl (Sub.skip rfl (Sub.skip rfl (Sub.skip rfl (Sub.skip rfl (Sub.skip rfl (Sub.refl _))))))), fun _ s => s⟩
        · skip
          replace hm := ite_f hc7 e18
          refine WL.idle (Idle.no rfl rfl rfl hc7) rfl rfl ?_
          refine WL.idle (Idle.no rfl rfl rfl hc7) rfl rfl ?_
          refine WL.idle (Idle.no rfl rfl rfl hc7) rfl rfl ?_
          refine WL.idle (Idle.no rfl rfl rfl hc7) rfl rfl ?_
          refine WL.idle (Idle.no rfl rfl rfl hc7) rfl rfl ?_
          refine WL.quiet (Runs.free rfl) rfl rfl (OV.quiet (ov_pick_false rfl (guard_eq rfl hc7) rfl)) ?_
          exact WL.nil ⟨Sub.cons' rfl (congrArg Value.bool (Option.some.inj hm)) (Sub.skip rfl (Sub.skip rfl (Sub.skip rfl (Sub.skip rfl (Sub.skip rfl (Sub.skip rfl (Sub.refl _))))))), fun _ s => s⟩
      refine WL.quiet (Runs.free rfl) rfl rfl (OV.quiet (ov_move rfl rfl)) ?_
      obtain ⟨c6, e20, hm⟩ := bind_some hm
      refine WL.cut_bool 2 133 (x := c6) ?_ ?_
      · rcases Bool.eq_false_or_eq_true c5 with hc8 | hc8
        · skip
          replace hm := ite_t hc8 e20
          obtain ⟨r12, e21, hm⟩ := bind_some hm
          refine WL.quiet (Runs.yes rfl rfl rfl hc8) rfl rfl (oq_con (r := (.bool r12)) Tryd.call11 rfl rfl (fun w' s => ⟨_, (law03_awake_con   w' H s.hold hG r12 e21)⟩)) ?_
          refine WL.quiet (Runs.free rfl) rfl rfl (OV.quiet (ov_pick_true rfl (guard_eq rfl hc8) rfl)) ?_
          exact WL.nil ⟨Sub.cons' rfl (congrArg Value.bool (Option.some.inj hm)) (Sub.skip rfl (Sub.skip rfl (Sub.refl _))), fun _ s => s⟩
        · skip
          replace hm := ite_f hc8 e20
          refine WL.idle (Idle.no rfl rfl rfl hc8) rfl rfl ?_
          refine WL.quiet (Runs.free rfl) rfl rfl (OV.quiet (ov_pick_false rfl (guard_eq rfl hc8) rfl)) ?_
          exact WL.nil ⟨Sub.cons' rfl (congrArg Value.bool (Option.some.inj hm)) (Sub.skip rfl (Sub.skip rfl (Sub.refl _))), fun _ s => s⟩
      refine WL.quiet (Runs.free rfl) rfl rfl (OV.quiet (ov_assign rfl rfl)) ?_
      refine WL.nil ?_
      refine then_normal ?_
      refine WP.ret ?_
      obtain rfl := Option.some.inj hm
      refine retQ_ret Tryd.results4 (Res.tmp rfl Res.nil) rfl (fun w' s => ⟨s.below, ?_⟩)
      exact rfl

theorem law03_TimespanReads_con (p_a : Span) (p_s : (List UInt8)) (w : World) (H : Heap) (hH : Le H (hp w)) (hG : Glob H) (r : Bool) (hm : law03_TimespanReads p_a p_s = some r) :
    Con Tryd.prog 5 [(.agg #[(.int .i64 p_a.low), (.int .i64 p_a.high)]), (mkS p_s)] w H (fun v _ => v = (.bool r)) := by
  unfold law03_TimespanReads at hm
  refine con_of hH Tryd.func5 rfl 52 Tryd.ntmps5 rfl ?_
  refine WP.seq ?_
  refine WP.region ?_
  refine WL.step (Runs.free rfl) rfl rfl (os_box (cs := [(.int .i64 p_a.low), (.int .i64 p_a.high)]) rfl rfl rfl (fun b1 => ?_))
  refine WL.quiet (Runs.free rfl) rfl rfl (OV.quiet (ov_assign rfl rfl)) ?_
  refine WL.nil ?_
  refine then_normal ?_
  obtain ⟨k1, hk1, hm⟩ := joinK_some hm
  refine WP.seq_join (fun g' S' => Sub [(1, (mkS p_s))] g' ∧ (∀ w', S' w' → St w H [] H w') ∧ k1 = some r) ?_ ?_
  · skip
    refine WP.seq ?_
    refine WP.region ?_
    refine WL.quiet (Runs.free rfl) rfl rfl (OV.quiet (ov_load_whole (i := 0) Tryd.isAgg23 Tryd.sizeOf23 rfl rfl rfl rfl)) ?_
    obtain ⟨r1, e1, hm⟩ := bind_some hm
    refine WL.quiet (Runs.free rfl) rfl rfl (oq_con (r := (.tuple #[(mkS r1.1), (.int .i64 r1.2)])) Tryd.call12 rfl rfl (fun w' s => ⟨_, (timespan_Format_con p_a  w' H s.hold hG r1 e1)⟩)) ?_
    refine WL.quiet (Runs.free rfl) rfl rfl (OV.quiet (ov_move rfl rfl)) ?_
    refine WL.quiet (Runs.free rfl) rfl rfl (OV.quiet (ov_extract rfl rfl rfl)) ?_
    refine WL.quiet (Runs.free rfl) rfl rfl (OV.quiet (ov_extract rfl rfl rfl)) ?_
    refine WL.quiet (Runs.free rfl) rfl rfl (OV.quiet (ov_assign rfl rfl)) ?_
    refine WL.quiet (Runs.free rfl) rfl rfl (OV.quiet (ov_assign rfl rfl)) ?_
    refine WL.nil ?_
    refine then_normal ?_
    refine WP.seq ?_
    refine WP.region ?_
    refine WL.quiet (Runs.free rfl) rfl rfl (OV.quiet (ov_move rfl rfl)) ?_
    refine WL.quiet (Runs.free rfl) rfl rfl (OV.quiet (ov_eql rfl rfl rfl)) ?_
    refine WL.nil ?_
    refine then_normal ?_
    refine WP.cond rfl (fun hc1 => ?_) (fun hc1 => ?_)
    · replace hm := ite_t hc1 hm
      refine WP.seq ?_
      refine WP.region ?_
      refine WL.quiet (Runs.free rfl) rfl rfl (OV.quiet (ov_move rfl rfl)) ?_
      obtain ⟨r2, e2, hm⟩ := bind_some hm
      refine WL.quiet (Runs.free rfl) rfl rfl (oq_con (r := (.tuple #[(.agg #[(.int .i64 r2.1.low), (.int .i64 r2.1.high)]), (.int .i64 r2.2)])) Tryd.call14 rfl rfl (fun w' s => ⟨_, (timespan_Parse_con r1.1  w' H s.hold hG r2 e2)⟩)) ?_
      refine WL.quiet (Runs.free rfl) rfl rfl (OV.quiet (ov_move rfl rfl)) ?_
      refine WL.quiet (Runs.free rfl) rfl rfl (OV.quiet (ov_extract rfl rfl rfl)) ?_
      refine WL.quiet (Runs.free rfl) rfl rfl (OV.quiet (ov_extract rfl rfl rfl)) ?_
      refine WL.step (Runs.free rfl) rfl rfl (os_alloc (cs := [(.int .i64 0), (.int .i64 0)]) Tryd.zeroValue23 rfl rfl (fun b2 => ?_))
      refine WL.step0 (Runs.free rfl) rfl (os_store (i := 0) (vs := [(.int .i64 r2.1.low), (.int .i64 r2.1.high)]) (cs' := [(.int .i64 r2.1.low), (.int .i64 r2.1.high)]) Tryd.sizeOf23 rfl rfl rfl rfl rfl rfl rfl rfl rfl ?_)
      refine WL.quiet (Runs.free rfl) rfl rfl (OV.quiet (ov_assign rfl rfl)) ?_
      refine WL.nil ?_
      refine then_normal ?_
      refine WP.seq ?_
      refine WP.region ?_
      refine WL.quiet (Runs.free rfl) rfl rfl (OV.quiet (ov_move rfl rfl)) ?_
      refine WL.quiet (Runs.free rfl) rfl rfl (OV.quiet (ov_neq rfl rfl rfl)) ?_
      refine WL.quiet (Runs.free rfl) rfl rfl (OV.quiet (ov_move rfl rfl)) ?_
      refine WL.cut_bool 4 31 (x := ((r2.2 != 0) || (!(r2.1 == p_a)))) ?_ ?_
      · rcases Bool.eq_false_or_eq_true (r2.2 != 0) with hc2 | hc2
        · skip
          refine WL.idle (Idle.no rfl rfl rfl hc2) rfl rfl ?_
          refine WL.idle (Idle.no rfl rfl rfl hc2) rfl rfl ?_
          refine WL.idle (Idle.no rfl rfl rfl hc2) rfl rfl ?_
          refine WL.quiet (Runs.free rfl) rfl rfl (OV.quiet (ov_pick_true rfl (guard_eq rfl hc2) rfl)) ?_
          exact WL.nil ⟨Sub.cons' rfl (congrArg Value.bool (by rw [hc2]; rfl)) (Sub.skip rfl (Sub.skip rfl (Sub.skip rfl (Sub.skip rfl (Sub.refl _))))), fun _ s => s⟩
        · skip
          refine WL.quiet (Runs.yes rfl rfl rfl hc2) rfl rfl (OV.quiet (ov_load_whole (i := 0) Tryd.isAgg23 Tryd.sizeOf23 rfl rfl rfl rfl)) ?_
          refine WL.quiet (Runs.yes rfl rfl rfl hc2) rfl rfl (OV.quiet (ov_load_whole (i := 1) Tryd.isAgg23 Tryd.sizeOf23 rfl rfl rfl rfl)) ?_
          refine WL.quiet (Runs.yes rfl rfl rfl hc2) rfl rfl (OV.quiet (neq_struct23 rfl rfl rfl)) ?_
          refine WL.quiet (Runs.free rfl) rfl rfl (OV.quiet (ov_pick_false rfl (guard_eq rfl hc2) rfl)) ?_
          exact WL.nil ⟨Sub.cons' rfl (congrArg Value.bool (by rw [hc2]; rfl)) (Sub.skip rfl (Sub.skip rfl (Sub.skip rfl (Sub.skip rfl (Sub.refl _))))), fun _ s => s⟩
      refine WL.nil ?_
      refine then_normal ?_
      refine WP.cond rfl (fun hc3 => ?_) (fun hc3 => ?_)
      · replace hm := ite_t hc3 hm
        refine WP.seq ?_
        refine WP.region ?_
        refine WL.quiet (Runs.free rfl) rfl rfl (OV.quiet (ov_assign rfl rfl)) ?_
        refine WL.nil ?_
        refine then_normal ?_
        refine WP.ret ?_
        refine then_ret ?_
        obtain rfl := Option.some.inj hm
        refine retQ_ret Tryd.results5 (Res.tmp rfl Res.nil) rfl (fun w' s => ⟨s.below, ?_⟩)
        exact rfl
      · replace hm := ite_f hc3 hm
        refine WP.skip ?_
        refine then_normal ?_
        exact ⟨(Sub.cons rfl (Sub.nil _)), fun w' s => (s.select [] (by decide) rfl), hm⟩
    · replace hm := ite_f hc1 hm
      refine WP.skip ?_
      refine then_normal ?_
      exact ⟨(Sub.cons rfl (Sub.nil _)), fun w' s => (s.select [] (by decide) rfl), hm⟩
  · rintro g' S' ⟨hsub1, hS1, hm⟩
    refine WP.sub hsub1 (WP.weaken hS1 ?_)
    replace hm := hk1.symm.trans hm
    obtain ⟨k2, hk2, hm⟩ := joinK_some hm
    refine WP.seq_join (fun g' S' => Sub [] g' ∧ (∀ w', S' w' → St w H [] H w') ∧ k2 = some r) ?_ ?_
    · skip
      refine WP.seq ?_
      refine WP.region ?_
      refine WL.quiet (Runs.free rfl) rfl rfl (OV.quiet (ov_move rfl rfl)) ?_
      obtain ⟨r3, e3, hm⟩ := bind_some hm
      refine WL.quiet (Runs.free rfl) rfl rfl (oq_con (r := (.tuple #[(.agg #[(.int .i64 r3.1.low), (.int .i64 r3.1.high)]), (.int .i64 r3.2)])) Tryd.call14 rfl rfl (fun w' s => ⟨_, (timespan_Parse_con p_s  w' H s.hold hG r3 e3)⟩)) ?_
      refine WL.quiet (Runs.free rfl) rfl rfl (OV.quiet (ov_move rfl rfl)) ?_
      refine WL.quiet (Runs.free rfl) rfl rfl (OV.quiet (ov_extract rfl rfl rfl)) ?_
      refine WL.quiet (Runs.free rfl) rfl rfl (OV.quiet (ov_extract rfl rfl rfl)) ?_
      refine WL.step (Runs.free rfl) rfl rfl (os_alloc (cs := [(.int .i64 0), (.int .i64 0)]) Tryd.zeroValue23 rfl rfl (fun b3 => ?_))
      refine WL.step0 (Runs.free rfl) rfl (os_store (i := 0) (vs := [(.int .i64 r3.1.low), (.int .i64 r3.1.high)]) (cs' := [(.int .i64 r3.1.low), (.int .i64 r3.1.high)]) Tryd.sizeOf23 rfl rfl rfl rfl rfl rfl rfl rfl rfl ?_)
      refine WL.quiet (Runs.free rfl) rfl rfl (OV.quiet (ov_assign rfl rfl)) ?_
      refine WL.nil ?_
      refine then_normal ?_
      refine WP.seq ?_
      refine WP.region ?_
      refine WL.quiet (Runs.free rfl) rfl rfl (OV.quiet (ov_move rfl rfl)) ?_
      refine WL.quiet (Runs.free rfl) rfl rfl (OV.quiet (ov_eql rfl rfl rfl)) ?_
      refine WL.nil ?_
      refine then_normal ?_
      refine WP.cond rfl (fun hc4 => ?_) (fun hc4 => ?_)
      · replace hm := ite_t hc4 hm
        refine WP.seq ?_
        refine WP.region ?_
        refine WL.quiet (Runs.free rfl) rfl rfl (OV.quiet (ov_load_whole (i := 0) Tryd.isAgg23 Tryd.sizeOf23 rfl rfl rfl rfl)) ?_
        obtain ⟨r4, e4, hm⟩ := bind_some hm
        refine WL.quiet (Runs.free rfl) rfl rfl (oq_con (r := (.tuple #[(mkS r4.1), (.int .i64 r4.2)])) Tryd.call12 rfl rfl (fun w' s => ⟨_, (timespan_Format_con r3.1  w' H s.hold hG r4 e4)⟩)) ?_
        refine WL.quiet (Runs.free rfl) rfl rfl (OV.quiet (ov_move rfl rfl)) ?_
        refine WL.quiet (Runs.free rfl) rfl rfl (OV.quiet (ov_extract rfl rfl rfl)) ?_
        refine WL.quiet (Runs.free rfl) rfl rfl (OV.quiet (ov_extract rfl rfl rfl)) ?_
        refine WL.quiet (Runs.free rfl) rfl rfl (OV.quiet (ov_assign rfl rfl)) ?_
        refine WL.quiet (Runs.free rfl) rfl rfl (OV.quiet (ov_assign rfl rfl)) ?_
        refine WL.nil ?_
        refine then_normal ?_
        refine WP.seq ?_
        refine WP.region ?_
        refine WL.quiet (Runs.free rfl) rfl rfl (OV.quiet (ov_move rfl rfl)) ?_
        refine WL.quiet (Runs.free rfl) rfl rfl (OV.quiet (ov_neq rfl rfl rfl)) ?_
        refine WL.quiet (Runs.free rfl) rfl rfl (OV.quiet (ov_move rfl rfl)) ?_
        refine WL.cut_bool 4 50 (x := ((r4.2 != 0) || (!(r4.1 == p_s)))) ?_ ?_
        · rcases Bool.eq_false_or_eq_true (r4.2 != 0) with hc5 | hc5
          · skip
            refine WL.idle (Idle.no rfl rfl rfl hc5) rfl rfl ?_
            refine WL.idle (Idle.no rfl rfl rfl hc5) rfl rfl ?_
            refine WL.idle (Idle.no rfl rfl rfl hc5) rfl rfl ?_
            refine WL.quiet (Runs.free rfl) rfl rfl (OV.quiet (ov_pick_true rfl (guard_eq rfl hc5) rfl)) ?_
            exact WL.nil ⟨Sub.cons' rfl (congrArg Value.bool (by rw [hc5]; rfl)) (Sub.skip rfl (Sub.skip rfl (Sub.skip rfl (Sub.skip rfl (Sub.refl _))))), fun _ s => s⟩
          · skip
            refine WL.quiet (Runs.yes rfl rfl rfl hc5) rfl rfl (OV.quiet (ov_move rfl rfl)) ?_
            refine WL.quiet (Runs.yes rfl rfl rfl hc5) rfl rfl (OV.quiet (ov_move rfl rfl)) ?_
            refine WL.quiet (Runs.yes rfl rfl rfl hc5) rfl rfl (OV.quiet (ov_sneq rfl rfl rfl)) ?_
            refine WL.quiet (Runs.free rfl) rfl rfl (OV.quiet (ov_pick_false rfl (guard_eq rfl hc5) rfl)) ?_
            exact WL.nil ⟨Sub.cons' rfl (congrArg Value.bool (by rw [hc5]; rfl)) (Sub.skip rfl (Sub.skip rfl (Sub.skip rfl (Sub.skip rfl (Sub.refl _))))), fun _ s => s⟩
        refine WL.nil ?_
        refine then_normal ?_
        refine WP.cond rfl (fun hc6 => ?_) (fun hc6 => ?_)
        · replace hm := ite_t hc6 hm
          refine WP.seq ?_
          refine WP.region ?_
          refine WL.quiet (Runs.free rfl) rfl rfl (OV.quiet (ov_assign rfl rfl)) ?_
          refine WL.nil ?_
          refine then_normal ?_
          refine WP.ret ?_
          refine then_ret ?_
          obtain rfl := Option.some.inj hm
          refine retQ_ret Tryd.results5 (Res.tmp rfl Res.nil) rfl (fun w' s => ⟨s.below, ?_⟩)
          exact rfl
        · replace hm := ite_f hc6 hm
          refine WP.skip ?_
          refine then_normal ?_
          exact ⟨(Sub.nil _), fun w' s => (s.select [] (by decide) rfl), hm⟩
      · replace hm := ite_f hc4 hm
        refine WP.skip ?_
        refine then_normal ?_
        exact ⟨(Sub.nil _), fun w' s => (s.select [] (by decide) rfl), hm⟩
    · rintro g' S' ⟨hsub2, hS2, hm⟩
      refine WP.sub hsub2 (WP.weaken hS2 ?_)
      replace hm := hk2.symm.trans hm
      refine WP.seq ?_
      refine WP.region ?_
      obtain ⟨r5, e5, hm⟩ := bind_some hm
      refine WL.quiet (Runs.free rfl) rfl rfl (oq_con (r := (.bool r5)) Tryd.call11 rfl rfl (fun w' s => ⟨_, (law03_awake_con   w' H s.hold hG r5 e5)⟩)) ?_
      refine WL.quiet (Runs.free rfl) rfl rfl (OV.quiet (ov_assign rfl rfl)) ?_
      refine WL.nil ?_
      refine then_normal ?_
      refine WP.ret ?_
      obtain rfl := Option.some.inj hm
      refine retQ_ret Tryd.results5 (Res.tmp rfl Res.nil) rfl (fun w' s => ⟨s.below, ?_⟩)
      exact rfl

theorem law03_TimespanOrders_con (p_a : Span) (p_b : Span) (w : World) (H : Heap) (hH : Le H (hp w)) (hG : Glob H) (r : Bool) (hm : law03_TimespanOrders p_a p_b = some r) :
    Con Tryd.prog 6 [(.agg #[(.int .i64 p_a.low), (.int .i64 p_a.high)]), (.agg #[(.int .i64 p_b.low), (.int .i64 p_b.high)])] w H (fun v _ => v = (.bool r)) := by
  unfold law03_TimespanOrders at hm
  refine con_of hH Tryd.func6 rfl 78 Tryd.ntmps6 rfl ?_
  refine WP.seq ?_
  refine WP.region ?_
  refine WL.step (Runs.free rfl) rfl rfl (os_box (cs := [(.int .i64 p_a.low), (.int .i64 p_a.high)]) rfl rfl rfl (fun b1 => ?_))
  refine WL.step (Runs.free rfl) rfl rfl (os_box (cs := [(.int .i64 p_b.low), (.int .i64 p_b.high)]) rfl rfl rfl (fun b2 => ?_))
  refine WL.quiet (Runs.free rfl) rfl rfl (OV.quiet (ov_assign rfl rfl)) ?_
  refine WL.nil ?_
  refine then_normal ?_
  refine WP.seq ?_
  refine WP.region ?_
  refine WL.quiet (Runs.free rfl) rfl rfl (OV.quiet (ov_load_whole (i := 1) Tryd.isAgg23 Tryd.sizeOf23 rfl rfl rfl rfl)) ?_
  refine WL.quiet (Runs.free rfl) rfl rfl (OV.quiet (ov_load_whole (i := 0) Tryd.isAgg23 Tryd.sizeOf23 rfl rfl rfl rfl)) ?_
  obtain ⟨r1, e1, hm⟩ := bind_some hm
  refine WL.quiet (Runs.free rfl) rfl rfl (oq_con (r := (.tuple #[(.agg #[(.int .i64 r1.1.low), (.int .i64 r1.1.high)]), (.int .i64 r1.2)])) Tryd.call18 rfl rfl (fun w' s => ⟨_, (timespan_Later_con p_a p_b  w' H s.hold hG r1 e1)⟩)) ?_
  refine WL.quiet (Runs.free rfl) rfl rfl (OV.quiet (ov_move rfl rfl)) ?_
  refine WL.quiet (Runs.free rfl) rfl rfl (OV.quiet (ov_extract rfl rfl rfl)) ?_
  refine WL.quiet (Runs.free rfl) rfl rfl (OV.quiet (ov_extract rfl rfl rfl)) ?_
  refine WL.step (Runs.free rfl) rfl rfl (os_alloc (cs := [(.int .i64 0), (.int .i64 0)]) Tryd.zeroValue23 rfl rfl (fun b3 => ?_))
  refine WL.step0 (Runs.free rfl) rfl (os_store (i := 0) (vs := [(.int .i64 r1.1.low), (.int .i64 r1.1.high)]) (cs' := [(.int .i64 r1.1.low), (.int .i64 r1.1.high)]) Tryd.sizeOf23 rfl rfl rfl rfl rfl rfl rfl rfl rfl ?_)
  refine WL.quiet (Runs.free rfl) rfl rfl (OV.quiet (ov_assign rfl rfl)) ?_
  refine WL.nil ?_
  refine then_normal ?_
  refine WP.seq ?_
  refine WP.region ?_
  refine WL.quiet (Runs.free rfl) rfl rfl (OV.quiet (ov_load_whole (i := 2) Tryd.isAgg23 Tryd.sizeOf23 rfl rfl rfl rfl)) ?_
  refine WL.quiet (Runs.free rfl) rfl rfl (OV.quiet (ov_load_whole (i := 1) Tryd.isAgg23 Tryd.sizeOf23 rfl rfl rfl rfl)) ?_
  obtain ⟨r2, e2, hm⟩ := bind_some hm
  refine WL.quiet (Runs.free rfl) rfl rfl (oq_con (r := (.tuple #[(.agg #[(.int .i64 r2.1.low), (.int .i64 r2.1.high)]), (.int .i64 r2.2)])) Tryd.call22 rfl rfl (fun w' s => ⟨_, (ref03_Later_con p_a p_b  w' H s.hold hG r2 e2)⟩)) ?_
  refine WL.quiet (Runs.free rfl) rfl rfl (OV.quiet (ov_move rfl rfl)) ?_
  refine WL.quiet (Runs.free rfl) rfl rfl (OV.quiet (ov_extract rfl rfl rfl)) ?_
  refine WL.quiet (Runs.free rfl) rfl rfl (OV.quiet (ov_extract rfl rfl rfl)) ?_
  refine WL.step (Runs.free rfl) rfl rfl (os_alloc (cs := [(.int .i64 0), (.int .i64 0)]) Tryd.zeroValue23 rfl rfl (fun b4 => ?_))
  refine WL.step0 (Runs.free rfl) rfl (os_store (i := 0) (vs := [(.int .i64 r2.1.low), (.int .i64 r2.1.high)]) (cs' := [(.int .i64 r2.1.low), (.int .i64 r2.1.high)]) Tryd.sizeOf23 rfl rfl rfl rfl rfl rfl rfl rfl rfl ?_)
  refine WL.quiet (Runs.free rfl) rfl rfl (OV.quiet (ov_assign rfl rfl)) ?_
  refine WL.nil ?_
  refine then_normal ?_
  refine WP.seq ?_
  refine WP.seq ?_
  refine WP.region ?_
  refine WL.quiet (Runs.free rfl) rfl rfl (OV.quiet (ov_load_whole (i := 1) Tryd.isAgg23 Tryd.sizeOf23 rfl rfl rfl rfl)) ?_
  refine WL.quiet (Runs.free rfl) rfl rfl (OV.quiet (ov_load_whole (i := 0) Tryd.isAgg23 Tryd.sizeOf23 rfl rfl rfl rfl)) ?_
  refine WL.quiet (Runs.free rfl) rfl rfl (OV.quiet (neq_struct23 rfl rfl rfl)) ?_
  refine WL.quiet (Runs.free rfl) rfl rfl (OV.quiet (ov_move rfl rfl)) ?_
  refine WL.cut_bool 4 32 (x := ((!(r1.1 == r2.1)) || (r1.2 != r2.2))) ?_ ?_
  · rcases Bool.eq_false_or_eq_true (!(r1.1 == r2.1)) with hc1 | hc1
    · skip
      refine WL.idle (Idle.no rfl rfl rfl hc1) rfl rfl ?_
      refine WL.idle (Idle.no rfl rfl rfl hc1) rfl rfl ?_
      refine WL.idle (Idle.no rfl rfl rfl hc1) rfl rfl ?_
      refine WL.quiet (Runs.free rfl) rfl rfl (OV.quiet (ov_pick_true rfl (guard_eq rfl hc1) rfl)) ?_
      exact WL.nil ⟨Sub.cons' rfl (congrArg Value.bool (by rw [hc1]; rfl)) (Sub.skip rfl (Sub.skip rfl (Sub.skip rfl (Sub.skip rfl (Sub.refl _))))), fun _ s => s⟩
    · skip
      refine WL.quiet (Runs.yes rfl rfl rfl hc1) rfl rfl (OV.quiet (ov_move rfl rfl)) ?_
      refine WL.quiet (Runs.yes rfl rfl rfl hc1) rfl rfl (OV.quiet (ov_move rfl rfl)) ?_
      refine WL.quiet (Runs.yes rfl rfl rfl hc1) rfl rfl (OV.quiet (ov_neq rfl rfl rfl)) ?_
      refine WL.quiet (Runs.free rfl) rfl rfl (OV.quiet (ov_pick_false rfl (guard_eq rfl hc1) rfl)) ?_
      exact WL.nil ⟨Sub.cons' rfl (congrArg Value.bool (by rw [hc1]; rfl)) (Sub.skip rfl (Sub.skip rfl (Sub.skip rfl (Sub.skip rfl (Sub.refl _))))), fun _ s => s⟩
  refine WL.nil ?_
  refine then_normal ?_
  refine WP.cond rfl (fun hc2 => ?_) (fun hc2 => ?_)
  · replace hm := ite_t hc2 hm
    refine WP.seq ?_
    refine WP.region ?_
    refine WL.quiet (Runs.free rfl) rfl rfl (OV.quiet (ov_assign rfl rfl)) ?_
    refine WL.nil ?_
    refine then_normal ?_
    refine WP.ret ?_
    refine then_ret ?_
    obtain rfl := Option.some.inj hm
    refine retQ_ret Tryd.results6 (Res.tmp rfl Res.nil) rfl (fun w' s => ⟨s.below, ?_⟩)
    exact rfl
  · replace hm := ite_f hc2 hm
    refine WP.skip ?_
    refine then_normal ?_
    refine WP.seq ?_
    refine WP.region ?_
    refine WL.quiet (Runs.free rfl) rfl rfl (OV.quiet (ov_load_whole (i := 3) Tryd.isAgg23 Tryd.sizeOf23 rfl rfl rfl rfl)) ?_
    refine WL.quiet (Runs.free rfl) rfl rfl (OV.quiet (ov_load_whole (i := 2) Tryd.isAgg23 Tryd.sizeOf23 rfl rfl rfl rfl)) ?_
    obtain ⟨r3, e3, hm⟩ := bind_some hm
    refine WL.quiet (Runs.free rfl) rfl rfl (oq_con (r := (.tuple #[(.agg #[(.int .i64 r3.1.low), (.int .i64 r3.1.high)]), (.int .i64 r3.2)])) Tryd.call19 rfl rfl (fun w' s => ⟨_, (timespan_Earlier_con p_a p_b  w' H s.hold hG r3 e3)⟩)) ?_
    refine WL.quiet (Runs.free rfl) rfl rfl (OV.quiet (ov_move rfl rfl)) ?_
    refine WL.quiet (Runs.free rfl) rfl rfl (OV.quiet (ov_extract rfl rfl rfl)) ?_
    refine WL.quiet (Runs.free rfl) rfl rfl (OV.quiet (ov_extract rfl rfl rfl)) ?_
    refine WL.step0 (Runs.free rfl) rfl (os_store (i := 1) (vs := [(.int .i64 r3.1.low), (.int .i64 r3.1.high)]) (cs' := [(.int .i64 r3.1.low), (.int .i64 r3.1.high)]) Tryd.sizeOf23 rfl rfl rfl rfl rfl rfl rfl rfl rfl ?_)
    refine WL.quiet (Runs.free rfl) rfl rfl (OV.quiet (ov_assign rfl rfl)) ?_
    refine WL.nil ?_
    refine then_normal ?_
    refine WP.seq ?_
    refine WP.region ?_
    refine WL.quiet (Runs.free rfl) rfl rfl (OV.quiet (ov_load_whole (i := 3) Tryd.isAgg23 Tryd.sizeOf23 rfl rfl rfl rfl)) ?_
    refine WL.quiet (Runs.free rfl) rfl rfl (OV.quiet (ov_load_whole (i := 2) Tryd.isAgg23 Tryd.sizeOf23 rfl rfl rfl rfl)) ?_
    obtain ⟨r4, e4, hm⟩ := bind_some hm
    refine WL.quiet (Runs.free rfl) rfl rfl (oq_con (r := (.tuple #[(.agg #[(.int .i64 r4.1.low), (.int .i64 r4.1.high)]), (.int .i64 r4.2)])) Tryd.call23 rfl rfl (fun w' s => ⟨_, (ref03_Earlier_con p_a p_b  w' H s.hold hG r4 e4)⟩)) ?_
    refine WL.quiet (Runs.free rfl) rfl rfl (OV.quiet (ov_move rfl rfl)) ?_
    refine WL.quiet (Runs.free rfl) rfl rfl (OV.quiet (ov_extract rfl rfl rfl)) ?_
    refine WL.quiet (Runs.free rfl) rfl rfl (OV.quiet (ov_extract rfl rfl rfl)) ?_
    refine WL.step0 (Runs.free rfl) rfl (os_store (i := 0) (vs := [(.int .i64 r4.1.low), (.int .i64 r4.1.high)]) (cs' := [(.int .i64 r4.1.low), (.int .i64 r4.1.high)]) Tryd.sizeOf23 rfl rfl rfl rfl rfl rfl rfl rfl rfl ?_)
    refine WL.quiet (Runs.free rfl) rfl rfl (OV.quiet (ov_assign rfl rfl)) ?_
    refine WL.nil ?_
    refine then_normal ?_
    refine WP.seq ?_
    refine WP.region ?_
    refine WL.quiet (Runs.free rfl) rfl rfl (OV.quiet (ov_load_whole (i := 3) Tryd.isAgg23 Tryd.sizeOf23 rfl rfl rfl rfl)) ?_
    refine WL.quiet (Runs.free rfl) rfl rfl (OV.quiet (ov_load_whole (i := 2) Tryd.isAgg23 Tryd.sizeOf23 rfl rfl rfl rfl)) ?_
    obtain ⟨r5, e5, hm⟩ := bind_some hm
    refine WL.quiet (Runs.free rfl) rfl rfl (oq_con (r := (.tuple #[(.agg #[(.int .i64 r5.1.low), (.int .i64 r5.1.high)]), (.int .i64 r5.2)])) Tryd.call24 rfl rfl (fun w' s => ⟨_, (timespan_Hull_con p_a p_b  w' H s.hold hG r5 e5)⟩)) ?_
    refine WL.quiet (Runs.free rfl) rfl rfl (OV.quiet (ov_move rfl rfl)) ?_
    refine WL.quiet (Runs.free rfl) rfl rfl (OV.quiet (ov_extract rfl rfl rfl)) ?_
    refine WL.quiet (Runs.free rfl) rfl rfl (OV.quiet (ov_extract rfl rfl rfl)) ?_
    refine WL.step (Runs.free rfl) rfl rfl (os_alloc (cs := [(.int .i64 0), (.int .i64 0)]) Tryd.zeroValue23 rfl rfl (fun b5 => ?_))
    refine WL.step0 (Runs.free rfl) rfl (os_store (i := 0) (vs := [(.int .i64 r5.1.low), (.int .i64 r5.1.high)]) (cs' := [(.int .i64 r5.1.low), (.int .i64 r5.1.high)]) Tryd.sizeOf23 rfl rfl rfl rfl rfl rfl rfl rfl rfl ?_)
    refine WL.quiet (Runs.free rfl) rfl rfl (OV.quiet (ov_assign rfl rfl)) ?_
    refine WL.nil ?_
    refine then_normal ?_
    refine WP.seq ?_
    refine WP.region ?_
    refine WL.quiet (Runs.free rfl) rfl rfl (OV.quiet (ov_load_whole (i := 4) Tryd.isAgg23 Tryd.sizeOf23 rfl rfl rfl rfl)) ?_
    refine WL.quiet (Runs.free rfl) rfl rfl (OV.quiet (ov_load_whole (i := 3) Tryd.isAgg23 Tryd.sizeOf23 rfl rfl rfl rfl)) ?_
    obtain ⟨r6, e6, hm⟩ := bind_some hm
    refine WL.quiet (Runs.free rfl) rfl rfl (oq_con (r := (.tuple #[(.agg #[(.int .i64 r6.1.low), (.int .i64 r6.1.high)]), (.int .i64 r6.2)])) Tryd.call25 rfl rfl (fun w' s => ⟨_, (ref03_Hull_con p_a p_b  w' H s.hold hG r6 e6)⟩)) ?_
    refine WL.quiet (Runs.free rfl) rfl rfl (OV.quiet (ov_move rfl rfl)) ?_
    refine WL.quiet (Runs.free rfl) rfl rfl (OV.quiet (ov_extract rfl rfl rfl)) ?_
    refine WL.quiet (Runs.free rfl) rfl rfl (OV.quiet (ov_extract rfl rfl rfl)) ?_
    refine WL.step (Runs.free rfl) rfl rfl (os_alloc (cs := [(.int .i64 0), (.int .i64 0)]) Tryd.zeroValue23 rfl rfl (fun b6 => ?_))
    refine WL.step0 (Runs.free rfl) rfl (os_store (i := 0) (vs := [(.int .i64 r6.1.low), (.int .i64 r6.1.high)]) (cs' := [(.int .i64 r6.1.low), (.int .i64 r6.1.high)]) Tryd.sizeOf23 rfl rfl rfl rfl rfl rfl rfl rfl rfl ?_)
    refine WL.quiet (Runs.free rfl) rfl rfl (OV.quiet (ov_assign rfl rfl)) ?_
    refine WL.nil ?_
    refine then_normal ?_
    refine WP.seq ?_
    refine WP.region ?_
    refine WL.quiet (Runs.free rfl) rfl rfl (OV.quiet (ov_load_whole (i := 3) Tryd.isAgg23 Tryd.sizeOf23 rfl rfl rfl rfl)) ?_
    refine WL.quiet (Runs.free rfl) rfl rfl (OV.quiet (ov_load_whole (i := 2) Tryd.isAgg23 Tryd.sizeOf23 rfl rfl rfl rfl)) ?_
    refine WL.quiet (Runs.free rfl) rfl rfl (OV.quiet (eql_struct23 rfl rfl rfl)) ?_
    refine WL.quiet (Runs.free rfl) rfl rfl (OV.quiet (ov_move rfl rfl)) ?_
    refine WL.cut_bool 4 64 (x := ((r3.1 == r4.1) && (r3.2 == r4.2))) ?_ ?_
    · rcases Bool.eq_false_or_eq_true (r3.1 == r4.1) with hc3 | hc3
      · skip
        refine WL.quiet (Runs.yes rfl rfl rfl hc3) rfl rfl (OV.quiet (ov_move rfl rfl)) ?_
        refine WL.quiet (Runs.yes rfl rfl rfl hc3) rfl rfl (OV.quiet (ov_move rfl rfl)) ?_
        refine WL.quiet (Runs.yes rfl rfl rfl hc3) rfl rfl (OV.quiet (ov_eql rfl rfl rfl)) ?_
        refine WL.quiet (Runs.free rfl) rfl rfl (OV.quiet (ov_pick_true rfl (guard_eq rfl hc3) rfl)) ?_
        exact WL.nil ⟨Sub.cons' rfl (congrArg Value.bool (by rw [hc3]; rfl)) (Sub.skip rfl (Sub.skip rfl (Sub.skip rfl (Sub.skip rfl (Sub.refl _))))), fun _ s => s⟩
      · skip
        refine WL.idle (Idle.no rfl rfl rfl hc3) rfl rfl ?_
        refine WL.idle (Idle.no rfl rfl rfl hc3) rfl rfl ?_
        refine WL.idle (Idle.no rfl rfl rfl hc3) rfl rfl ?_
        refine WL.quiet (Runs.free rfl) rfl rfl (OV.quiet (ov_pick_false rfl (guard_eq rfl hc3) rfl)) ?_
        exact WL.nil ⟨Sub.cons' rfl (congrArg Value.bool (by rw [hc3]; rfl)) (Sub.skip rfl (Sub.skip rfl (Sub.skip rfl (Sub.skip rfl (Sub.refl _))))), fun _ s => s⟩
    refine WL.quiet (Runs.free rfl) rfl rfl (OV.quiet (ov_move rfl rfl)) ?_
    refine WL.cut_bool 4 69 (x := (((r3.1 == r4.1) && (r3.2 == r4.2)) && (r5.1 == r6.1))) ?_ ?_
    · rcases Bool.eq_false_or_eq_true ((r3.1 == r4.1) && (r3.2 == r4.2)) with hc4 | hc4
      · skip
        refine WL.quiet (Runs.yes rfl rfl rfl hc4) rfl rfl (OV.quiet (ov_load_whole (i := 1) Tryd.isAgg23 Tryd.sizeOf23 rfl rfl rfl rfl)) ?_
        refine WL.quiet (Runs.yes rfl rfl rfl hc4) rfl rfl (OV.quiet (ov_load_whole (i := 0) Tryd.isAgg23 Tryd.sizeOf23 rfl rfl rfl rfl)) ?_
        refine WL.quiet (Runs.yes rfl rfl rfl hc4) rfl rfl (OV.quiet (eql_struct23 rfl rfl rfl)) ?_
        refine WL.quiet (Runs.free rfl) rfl rfl (OV.quiet (ov_pick_true rfl (guard_eq rfl hc4) rfl)) ?_
        exact WL.nil ⟨Sub.cons' rfl (congrArg Value.bool (by rw [hc4]; rfl)) (Sub.skip rfl (Sub.skip rfl (Sub.skip rfl (Sub.skip rfl (Sub.refl _))))), fun _ s => s⟩
      · skip
        refine WL.idle (Idle.no rfl rfl rfl hc4) rfl rfl ?_
        refine WL.idle (Idle.no rfl rfl rfl hc4) rfl rfl ?_
        refine WL.idle (Idle.no rfl rfl rfl hc4) rfl rfl ?_
        refine WL.quiet (Runs.free rfl) rfl rfl (OV.quiet (ov_pick_false rfl (guard_eq rfl hc4) rfl)) ?_
        exact WL.nil ⟨Sub.cons' rfl (congrArg Value.bool (by rw [hc4]; rfl)) (Sub.skip rfl (Sub.skip rfl (Sub.skip rfl (Sub.skip rfl (Sub.refl _))))), fun _ s => s⟩
    refine WL.quiet (Runs.free rfl) rfl rfl (OV.quiet (ov_move rfl rfl)) ?_
    refine WL.cut_bool 4 74 (x := ((((r3.1 == r4.1) && (r3.2 == r4.2)) && (r5.1 == r6.1)) && (r5.2 == r6.2))) ?_ ?_
    · rcases Bool.eq_false_or_eq_true (((r3.1 == r4.1) && (r3.2 == r4.2)) && (r5.1 == r6.1)) with hc5 | hc5
      · skip
        refine WL.quiet (Runs.yes rfl rfl rfl hc5) rfl rfl (OV.quiet (ov_move rfl rfl)) ?_
        refine WL.quiet (Runs.yes rfl rfl rfl hc5) rfl rfl (OV.quiet (ov_move rfl rfl)) ?_
        refine WL.quiet (Runs.yes rfl rfl rfl hc5) rfl rfl (OV.quiet (ov_eql rfl rfl rfl)) ?_
        refine WL.quiet (Runs.free rfl) rfl rfl (OV.quiet (ov_pick_true rfl (guard_eq rfl hc5) rfl)) ?_
        exact WL.nil ⟨Sub.cons' rfl (congrArg Value.bool (by rw [hc5]; rfl)) (Sub.skip rfl (Sub.skip rfl (Sub.skip rfl (Sub.skip rfl (Sub.refl _))))), fun _ s => s⟩
      · skip
        refine WL.idle (Idle.no rfl rfl rfl hc5) rfl rfl ?_
        refine WL.idle (Idle.no rfl rfl rfl hc5) rfl rfl ?_
        refine WL.idle (Idle.no rfl rfl rfl hc5) rfl rfl ?_
        refine WL.quiet (Runs.free rfl) rfl rfl (OV.quiet (ov_pick_false rfl (guard_eq rfl hc5) rfl)) ?_
        exact WL.nil ⟨Sub.cons' rfl (congrArg Value.bool (by rw [hc5]; rfl)) (Sub.skip rfl (Sub.skip rfl (Sub.skip rfl (Sub.skip rfl (Sub.refl _))))), fun _ s => s⟩
    refine WL.quiet (Runs.free rfl) rfl rfl (OV.quiet (ov_move rfl rfl)) ?_
    obtain ⟨c1, e7, hm⟩ := bind_some hm
    refine WL.cut_bool 2 77 (x := c1) ?_ ?_
    · rcases Bool.eq_false_or_eq_true ((((r3.1 == r4.1) && (r3.2 == r4.2)) && (r5.1 == r6.1)) && (r5.2 == r6.2)) with hc6 | hc6
      · skip
        replace hm := ite_t hc6 e7
        obtain ⟨r7, e8, hm⟩ := bind_some hm
        refine WL.quiet (Runs.yes rfl rfl rfl hc6) rfl rfl (oq_con (r := (.bool r7)) Tryd.call11 rfl rfl (fun w' s => ⟨_, (law03_awake_con   w' H s.hold hG r7 e8)⟩)) ?_
        refine WL.quiet (Runs.free rfl) rfl rfl (OV.quiet (ov_pick_true rfl (guard_eq rfl hc6) rfl)) ?_
        exact WL.nil ⟨Sub.cons' rfl (congrArg Value.bool (Option.some.inj hm)) (Sub.skip rfl (Sub.skip rfl (Sub.refl _))), fun _ s => s⟩
      · skip
        replace hm := ite_f hc6 e7
        refine WL.idle (Idle.no rfl rfl rfl hc6) rfl rfl ?_
        refine WL.quiet (Runs.free rfl) rfl rfl (OV.quiet (ov_pick_false rfl (guard_eq rfl hc6) rfl)) ?_
        exact WL.nil ⟨Sub.cons' rfl (congrArg Value.bool (Option.some.inj hm)) (Sub.skip rfl (Sub.skip rfl (Sub.refl _))), fun _ s => s⟩
    refine WL.quiet (Runs.free rfl) rfl rfl (OV.quiet (ov_assign rfl rfl)) ?_
    refine WL.nil ?_
    refine then_normal ?_
    refine WP.ret ?_
    obtain rfl := Option.some.inj hm
    refine retQ_ret Tryd.results6 (Res.tmp rfl Res.nil) rfl (fun w' s => ⟨s.below, ?_⟩)
    exact rfl

theorem law03_TimespanMeets_con (p_a : Span) (p_b : Span) (w : World) (H : Heap) (hH : Le H (hp w)) (hG : Glob H) (r : Bool) (hm : law03_TimespanMeets p_a p_b = some r) :
    Con Tryd.prog 7 [(.agg #[(.int .i64 p_a.low), (.int .i64 p_a.high)]), (.agg #[(.int .i64 p_b.low), (.int .i64 p_b.high)])] w H (fun v _ => v = (.bool r)) := by
  unfold law03_TimespanMeets at hm
  refine con_of hH Tryd.func7 rfl 89 Tryd.ntmps7 rfl ?_
  refine WP.seq ?_
  refine WP.region ?_
  refine WL.step (Runs.free rfl) rfl rfl (os_box (cs := [(.int .i64 p_a.low), (.int .i64 p_a.high)]) rfl rfl rfl (fun b1 => ?_))
  refine WL.step (Runs.free rfl) rfl rfl (os_box (cs := [(.int .i64 p_b.low), (.int .i64 p_b.high)]) rfl rfl rfl (fun b2 => ?_))
  refine WL.quiet (Runs.free rfl) rfl rfl (OV.quiet (ov_assign rfl rfl)) ?_
  refine WL.nil ?_
  refine then_normal ?_
  refine WP.seq ?_
  refine WP.region ?_
  refine WL.quiet (Runs.free rfl) rfl rfl (OV.quiet (ov_load_whole (i := 1) Tryd.isAgg23 Tryd.sizeOf23 rfl rfl rfl rfl)) ?_
  refine WL.quiet (Runs.free rfl) rfl rfl (OV.quiet (ov_load_whole (i := 0) Tryd.isAgg23 Tryd.sizeOf23 rfl rfl rfl rfl)) ?_
  obtain ⟨r1, e1, hm⟩ := bind_some hm
  refine WL.quiet (Runs.free rfl) rfl rfl (oq_con (r := (.tuple #[(.agg #[(.int .i64 r1.1.low), (.int .i64 r1.1.high)]), (.bool r1.2.1), (.int .i64 r1.2.2)])) Tryd.call26 rfl rfl (fun w' s => ⟨_, (timespan_Meet_con p_a p_b  w' H s.hold hG r1 e1)⟩)) ?_
  refine WL.quiet (Runs.free rfl) rfl rfl (OV.quiet (ov_move rfl rfl)) ?_
  refine WL.quiet (Runs.free rfl) rfl rfl (OV.quiet (ov_extract rfl rfl rfl)) ?_
  refine WL.quiet (Runs.free rfl) rfl rfl (OV.quiet (ov_extract rfl rfl rfl)) ?_
  refine WL.quiet (Runs.free rfl) rfl rfl (OV.quiet (ov_extract rfl rfl rfl)) ?_
  refine WL.step (Runs.free rfl) rfl rfl (os_alloc (cs := [(.int .i64 0), (.int .i64 0)]) Tryd.zeroValue23 rfl rfl (fun b3 => ?_))
  refine WL.step0 (Runs.free rfl) rfl (os_store (i := 0) (vs := [(.int .i64 r1.1.low), (.int .i64 r1.1.high)]) (cs' := [(.int .i64 r1.1.low), (.int .i64 r1.1.high)]) Tryd.sizeOf23 rfl rfl rfl rfl rfl rfl rfl rfl rfl ?_)
  refine WL.quiet (Runs.free rfl) rfl rfl (OV.quiet (ov_assign rfl rfl)) ?_
  refine WL.quiet (Runs.free rfl) rfl rfl (OV.quiet (ov_assign rfl rfl)) ?_
  refine WL.nil ?_
  refine then_normal ?_
  refine WP.seq ?_
  refine WP.region ?_
  refine WL.quiet (Runs.free rfl) rfl rfl (OV.quiet (ov_load_whole (i := 2) Tryd.isAgg23 Tryd.sizeOf23 rfl rfl rfl rfl)) ?_
  refine WL.quiet (Runs.free rfl) rfl rfl (OV.quiet (ov_load_whole (i := 1) Tryd.isAgg23 Tryd.sizeOf23 rfl rfl rfl rfl)) ?_
  obtain ⟨r2, e2, hm⟩ := bind_some hm
  refine WL.quiet (Runs.free rfl) rfl rfl (oq_con (r := (.tuple #[(.agg #[(.int .i64 r2.1.low), (.int .i64 r2.1.high)]), (.bool r2.2.1), (.int .i64 r2.2.2)])) Tryd.call27 rfl rfl (fun w' s => ⟨_, (ref03_Meet_con p_a p_b  w' H s.hold hG r2 e2)⟩)) ?_
  refine WL.quiet (Runs.free rfl) rfl rfl (OV.quiet (ov_move rfl rfl)) ?_
  refine WL.quiet (Runs.free rfl) rfl rfl (OV.quiet (ov_extract rfl rfl rfl)) ?_
  refine WL.quiet (Runs.free rfl) rfl rfl (OV.quiet (ov_extract rfl rfl rfl)) ?_
  refine WL.quiet (Runs.free rfl) rfl rfl (OV.quiet (ov_extract rfl rfl rfl)) ?_
  refine WL.step (Runs.free rfl) rfl rfl (os_alloc (cs := [(.int .i64 0), (.int .i64 0)]) Tryd.zeroValue23 rfl rfl (fun b4 => ?_))
  refine WL.step0 (Runs.free rfl) rfl (os_store (i := 0) (vs := [(.int .i64 r2.1.low), (.int .i64 r2.1.high)]) (cs' := [(.int .i64 r2.1.low), (.int .i64 r2.1.high)]) Tryd.sizeOf23 rfl rfl rfl rfl rfl rfl rfl rfl rfl ?_)
  refine WL.quiet (Runs.free rfl) rfl rfl (OV.quiet (ov_assign rfl rfl)) ?_
  refine WL.quiet (Runs.free rfl) rfl rfl (OV.quiet (ov_assign rfl rfl)) ?_
  refine WL.nil ?_
  refine then_normal ?_
  refine WP.seq ?_
  refine WP.region ?_
  refine WL.quiet (Runs.free rfl) rfl rfl (OV.quiet (ov_load_whole (i := 3) Tryd.isAgg23 Tryd.sizeOf23 rfl rfl rfl rfl)) ?_
  refine WL.quiet (Runs.free rfl) rfl rfl (OV.quiet (ov_load_whole (i := 2) Tryd.isAgg23 Tryd.sizeOf23 rfl rfl rfl rfl)) ?_
  obtain ⟨r3, e3, hm⟩ := bind_some hm
  refine WL.quiet (Runs.free rfl) rfl rfl (oq_con (r := (.tuple #[(.bool r3.1), (.int .i64 r3.2)])) Tryd.call28 rfl rfl (fun w' s => ⟨_, (timespan_Within_con p_a p_b  w' H s.hold hG r3 e3)⟩)) ?_
  refine WL.quiet (Runs.free rfl) rfl rfl (OV.quiet (ov_move rfl rfl)) ?_
  refine WL.quiet (Runs.free rfl) rfl rfl (OV.quiet (ov_extract rfl rfl rfl)) ?_
  refine WL.quiet (Runs.free rfl) rfl rfl (OV.quiet (ov_extract rfl rfl rfl)) ?_
  refine WL.quiet (Runs.free rfl) rfl rfl (OV.quiet (ov_assign rfl rfl)) ?_
  refine WL.quiet (Runs.free rfl) rfl rfl (OV.quiet (ov_assign rfl rfl)) ?_
  refine WL.nil ?_
  refine then_normal ?_
  refine WP.seq ?_
  refine WP.region ?_
  refine WL.quiet (Runs.free rfl) rfl rfl (OV.quiet (ov_load_whole (i := 3) Tryd.isAgg23 Tryd.sizeOf23 rfl rfl rfl rfl)) ?_
  refine WL.quiet (Runs.free rfl) rfl rfl (OV.quiet (ov_load_whole (i := 2) Tryd.isAgg23 Tryd.sizeOf23 rfl rfl rfl rfl)) ?_
  obtain ⟨r4, e4, hm⟩ := bind_some hm
  refine WL.quiet (Runs.free rfl) rfl rfl (oq_con (r := (.tuple #[(.bool r4.1), (.int .i64 r4.2)])) Tryd.call29 rfl rfl (fun w' s => ⟨_, (ref03_Within_con p_a p_b  w' H s.hold hG r4 e4)⟩)) ?_
  refine WL.quiet (Runs.free rfl) rfl rfl (OV.quiet (ov_move rfl rfl)) ?_
  refine WL.quiet (Runs.free rfl) rfl rfl (OV.quiet (ov_extract rfl rfl rfl)) ?_
  refine WL.quiet (Runs.free rfl) rfl rfl (OV.quiet (ov_extract rfl rfl rfl)) ?_
  refine WL.quiet (Runs.free rfl) rfl rfl (OV.quiet (ov_assign rfl rfl)) ?_
  refine WL.quiet (Runs.free rfl) rfl rfl (OV.quiet (ov_assign rfl rfl)) ?_
  refine WL.nil ?_
  refine then_normal ?_
  refine WP.seq ?_
  refine WP.seq ?_
  refine WP.region ?_
  refine WL.quiet (Runs.free rfl) rfl rfl (OV.quiet (ov_load_whole (i := 1) Tryd.isAgg23 Tryd.sizeOf23 rfl rfl rfl rfl)) ?_
  refine WL.quiet (Runs.free rfl) rfl rfl (OV.quiet (ov_load_whole (i := 0) Tryd.isAgg23 Tryd.sizeOf23 rfl rfl rfl rfl)) ?_
  refine WL.quiet (Runs.free rfl) rfl rfl (OV.quiet (neq_struct23 rfl rfl rfl)) ?_
  refine WL.quiet (Runs.free rfl) rfl rfl (OV.quiet (ov_move rfl rfl)) ?_
  refine WL.cut_bool 4 50 (x := ((!(r1.1 == r2.1)) || (!(r1.2.1 == r2.2.1)))) ?_ ?_
  · rcases Bool.eq_false_or_eq_true (!(r1.1 == r2.1)) with hc1 | hc1
    · skip
      refine WL.idle (Idle.no rfl rfl rfl hc1) rfl rfl ?_
      refine WL.idle (Idle.no rfl rfl rfl hc1) rfl rfl ?_
      refine WL.idle (Idle.no rfl rfl rfl hc1) rfl rfl ?_
      refine WL.quiet (Runs.free rfl) rfl rfl (OV.quiet (ov_pick_true rfl (guard_eq rfl hc1) rfl)) ?_
      exact WL.nil ⟨Sub.cons' rfl (congrArg Value.bool (by rw [hc1]; rfl)) (Sub.skip rfl (Sub.skip rfl (Sub.skip rfl (Sub.skip rfl (Sub.refl _))))), fun _ s => s⟩
    · skip
      refine WL.quiet (Runs.yes rfl rfl rfl hc1) rfl rfl (OV.quiet (ov_move rfl rfl)) ?_
      refine WL.quiet (Runs.yes rfl rfl rfl hc1) rfl rfl (OV.quiet (ov_move rfl rfl)) ?_
      refine WL.quiet (Runs.yes rfl rfl rfl hc1) rfl rfl (OV.quiet (ov_bneq Tryd.underlying4 rfl rfl rfl)) ?_
      refine WL.quiet (Runs.free rfl) rfl rfl (OV.quiet (ov_pick_false rfl (guard_eq rfl hc1) rfl)) ?_
      exact WL.nil ⟨Sub.cons' rfl (congrArg Value.bool (by rw [hc1]; rfl)) (Sub.skip rfl (Sub.skip rfl (Sub.skip rfl (Sub.skip rfl (Sub.refl _))))), fun _ s => s⟩
  refine WL.quiet (Runs.free rfl) rfl rfl (OV.quiet (ov_move rfl rfl)) ?_
  refine WL.cut_bool 4 55 (x := (((!(r1.1 == r2.1)) || (!(r1.2.1 == r2.2.1))) || (r1.2.2 != r2.2.2))) ?_ ?_
  · rcases Bool.eq_false_or_eq_true ((!(r1.1 == r2.1)) || (!(r1.2.1 == r2.2.1))) with hc2 | hc2
    · skip
      refine WL.idle (Idle.no rfl rfl rfl hc2) rfl rfl ?_
      refine WL.idle (Idle.no rfl rfl rfl hc2) rfl rfl ?_
      refine WL.idle (Idle.no rfl rfl rfl hc2) rfl rfl ?_
      refine WL.quiet (Runs.free rfl) rfl rfl (OV.quiet (ov_pick_true rfl (guard_eq rfl hc2) rfl)) ?_
      exact WL.nil ⟨Sub.cons' rfl (congrArg Value.bool (by rw [hc2]; rfl)) (Sub.skip rfl (Sub.skip rfl (Sub.skip rfl (Sub.skip rfl (Sub.refl _))))), fun _ s => s⟩
    · skip
      refine WL.quiet (Runs.yes rfl rfl rfl hc2) rfl rfl (OV.quiet (ov_move rfl rfl)) ?_
      refine WL.quiet (Runs.yes rfl rfl rfl hc2) rfl rfl (OV.quiet (ov_move rfl rfl)) ?_
      refine WL.quiet (Runs.yes rfl rfl rfl hc2) rfl rfl (OV.quiet (ov_neq rfl rfl rfl)) ?_
      refine WL.quiet (Runs.free rfl) rfl rfl (OV.quiet (ov_pick_false rfl (guard_eq rfl hc2) rfl)) ?_
      exact WL.nil ⟨Sub.cons' rfl (congrArg Value.bool (by rw [hc2]; rfl)) (Sub.skip rfl (Sub.skip rfl (Sub.skip rfl (Sub.skip rfl (Sub.refl _))))), fun _ s => s⟩
  refine WL.quiet (Runs.free rfl) rfl rfl (OV.quiet (ov_move rfl rfl)) ?_
  refine WL.cut_bool 4 60 (x := ((((!(r1.1 == r2.1)) || (!(r1.2.1 == r2.2.1))) || (r1.2.2 != r2.2.2)) || (!(r3.1 == r4.1)))) ?_ ?_
  · rcases Bool.eq_false_or_eq_true (((!(r1.1 == r2.1)) || (!(r1.2.1 == r2.2.1))) || (r1.2.2 != r2.2.2)) with hc3 | hc3
    · skip
      refine WL.idle (Idle.no rfl rfl rfl hc3) rfl rfl ?_
      refine WL.idle (Idle.no rfl rfl rfl hc3) rfl rfl ?_
      refine WL.idle (Idle.no rfl rfl rfl hc3) rfl rfl ?_
      refine WL.quiet (Runs.free rfl) rfl rfl (OV.quiet (ov_pick_true rfl (guard_eq rfl hc3) rfl)) ?_
      exact WL.nil ⟨Sub.cons' rfl (congrArg Value.bool (by rw [hc3]; rfl)) (Sub.skip rfl (Sub.skip rfl (Sub.skip rfl (Sub.skip rfl (Sub.refl _))))), fun _ s => s⟩
    · skip
      refine WL.quiet (Runs.yes rfl rfl rfl hc3) rfl rfl (OV.quiet (ov_move rfl rfl)) ?_
      refine WL.quiet (Runs.yes rfl rfl rfl hc3) rfl rfl (OV.quiet (ov_move rfl rfl)) ?_
      refine WL.quiet (Runs.yes rfl rfl rfl hc3) rfl rfl (OV.quiet (ov_bneq Tryd.underlying4 rfl rfl rfl)) ?_
      refine WL.quiet (Runs.free rfl) rfl rfl (OV.quiet (ov_pick_false rfl (guard_eq rfl hc3) rfl)) ?_
      exact WL.nil ⟨Sub.cons' rfl (congrArg Value.bool (by rw [hc3]; rfl)) (Sub.skip rfl (Sub.skip rfl (Sub.skip rfl (Sub.skip rfl (Sub.refl _))))), fun _ s => s⟩
  refine WL.quiet (Runs.free rfl) rfl rfl (OV.quiet (ov_move rfl rfl)) ?_
  refine WL.cut_bool 4 65 (x := (((((!(r1.1 == r2.1)) || (!(r1.2.1 == r2.2.1))) || (r1.2.2 != r2.2.2)) || (!(r3.1 == r4.1))) || (r3.2 != r4.2))) ?_ ?_
  · rcases Bool.eq_false_or_eq_true ((((!(r1.1 == r2.1)) || (!(r1.2.1 == r2.2.1))) || (r1.2.2 != r2.2.2)) || (!(r3.1 == r4.1))) with hc4 | hc4
    · skip
      refine WL.idle (Idle.no rfl rfl rfl hc4) rfl rfl ?_
      refine WL.idle (Idle.no rfl rfl rfl hc4) rfl rfl ?_
      refine WL.idle (Idle.no rfl rfl rfl hc4) rfl rfl ?_
      refine WL.quiet (Runs.free rfl) rfl rfl (OV.quiet (ov_pick_true rfl (guard_eq rfl hc4) rfl)) ?_
      exact WL.nil ⟨Sub.cons' rfl (congrArg Value.bool (by rw [hc4]; rfl)) (Sub.skip rfl (Sub.skip rfl (Sub.skip rfl (Sub.skip rfl (Sub.refl _))))), fun _ s => s⟩
    · skip
      refine WL.quiet (Runs.yes rfl rfl rfl hc4) rfl rfl (OV.quiet (ov_move rfl rfl)) ?_
      refine WL.quiet (Runs.yes rfl rfl rfl hc4) rfl rfl (OV.quiet (ov_move rfl rfl)) ?_
      refine WL.quiet (Runs.yes rfl rfl rfl hc4) rfl rfl (OV.quiet (ov_neq rfl rfl rfl)) ?_
      refine WL.quiet (Runs.free rfl) rfl rfl (OV.quiet (ov_pick_false rfl (guard_eq rfl hc4) rfl)) ?_
      exact WL.nil ⟨Sub.cons' rfl (congrArg Value.bool (by rw [hc4]; rfl)) (Sub.skip rfl (Sub.skip rfl (Sub.skip rfl (Sub.skip rfl (Sub.refl _))))), fun _ s => s⟩
  refine WL.nil ?_
  refine then_normal ?_
  refine WP.cond rfl (fun hc5 => ?_) (fun hc5 => ?_)
  · replace hm := ite_t hc5 hm
    refine WP.seq ?_
    refine WP.region ?_
    refine WL.quiet (Runs.free rfl) rfl rfl (OV.quiet (ov_assign rfl rfl)) ?_
    refine WL.nil ?_
    refine then_normal ?_
    refine WP.ret ?_
    refine then_ret ?_
    obtain rfl := Option.some.inj hm
    refine retQ_ret Tryd.results7 (Res.tmp rfl Res.nil) rfl (fun w' s => ⟨s.below, ?_⟩)
    exact rfl
  · replace hm := ite_f hc5 hm
    refine WP.skip ?_
    refine then_normal ?_
    refine WP.seq ?_
    refine WP.region ?_
    refine WL.quiet (Runs.free rfl) rfl rfl (OV.quiet (ov_load_whole (i := 3) Tryd.isAgg23 Tryd.sizeOf23 rfl rfl rfl rfl)) ?_
    refine WL.quiet (Runs.free rfl) rfl rfl (OV.quiet (ov_load_whole (i := 2) Tryd.isAgg23 Tryd.sizeOf23 rfl rfl rfl rfl)) ?_
    obtain ⟨r5, e5, hm⟩ := bind_some hm
    refine WL.quiet (Runs.free rfl) rfl rfl (oq_con (r := (.tuple #[(.int .i64 r5.1), (.int .i64 r5.2)])) Tryd.call30 rfl rfl (fun w' s => ⟨_, (timespan_Compare_con p_a p_b  w' H s.hold hG r5 e5)⟩)) ?_
    refine WL.quiet (Runs.free rfl) rfl rfl (OV.quiet (ov_move rfl rfl)) ?_
    refine WL.quiet (Runs.free rfl) rfl rfl (OV.quiet (ov_extract rfl rfl rfl)) ?_
    refine WL.quiet (Runs.free rfl) rfl rfl (OV.quiet (ov_extract rfl rfl rfl)) ?_
    refine WL.quiet (Runs.free rfl) rfl rfl (OV.quiet (ov_assign rfl rfl)) ?_
    refine WL.quiet (Runs.free rfl) rfl rfl (OV.quiet (ov_assign rfl rfl)) ?_
    refine WL.nil ?_
    refine then_normal ?_
    refine WP.seq ?_
    refine WP.region ?_
    refine WL.quiet (Runs.free rfl) rfl rfl (OV.quiet (ov_load_whole (i := 3) Tryd.isAgg23 Tryd.sizeOf23 rfl rfl rfl rfl)) ?_
    refine WL.quiet (Runs.free rfl) rfl rfl (OV.quiet (ov_load_whole (i := 2) Tryd.isAgg23 Tryd.sizeOf23 rfl rfl rfl rfl)) ?_
    obtain ⟨r6, e6, hm⟩ := bind_some hm
    refine WL.quiet (Runs.free rfl) rfl rfl (oq_con (r := (.tuple #[(.int .i64 r6.1), (.int .i64 r6.2)])) Tryd.call31 rfl rfl (fun w' s => ⟨_, (ref03_Compare_con p_a p_b  w' H s.hold hG r6 e6)⟩)) ?_
    refine WL.quiet (Runs.free rfl) rfl rfl (OV.quiet (ov_move rfl rfl)) ?_
    refine WL.quiet (Runs.free rfl) rfl rfl (OV.quiet (ov_extract rfl rfl rfl)) ?_
    refine WL.quiet (Runs.free rfl) rfl rfl (OV.quiet (ov_extract rfl rfl rfl)) ?_
    refine WL.quiet (Runs.free rfl) rfl rfl (OV.quiet (ov_assign rfl rfl)) ?_
    refine WL.quiet (Runs.free rfl) rfl rfl (OV.quiet (ov_assign rfl rfl)) ?_
    refine WL.nil ?_
    refine then_normal ?_
    refine WP.seq ?_
    refine WP.region ?_
    refine WL.quiet (Runs.free rfl) rfl rfl (OV.quiet (ov_move rfl rfl)) ?_
    refine WL.quiet (Runs.free rfl) rfl rfl (OV.quiet (ov_move rfl rfl)) ?_
    refine WL.quiet (Runs.free rfl) rfl rfl (OV.quiet (ov_eql rfl rfl rfl)) ?_
    refine WL.quiet (Runs.free rfl) rfl rfl (OV.quiet (ov_move rfl rfl)) ?_
    refine WL.cut_bool 4 85 (x := ((r5.1 == r6.1) && (r5.2 == r6.2))) ?_ ?_
    · rcases Bool.eq_false_or_eq_true (r5.1 == r6.1) with hc6 | hc6
      · skip
        refine WL.quiet (Runs.yes rfl rfl rfl hc6) rfl rfl (OV.quiet (ov_move rfl rfl)) ?_
        refine WL.quiet (Runs.yes rfl rfl rfl hc6) rfl rfl (OV.quiet (ov_move rfl rfl)) ?_
        refine WL.quiet (Runs.yes rfl rfl rfl hc6) rfl rfl (OV.quiet (ov_eql rfl rfl rfl)) ?_
        refine WL.quiet (Runs.free rfl) rfl rfl (OV.quiet (ov_pick_true rfl (guard_eq rfl hc6) rfl)) ?_
        exact WL.nil ⟨Sub.cons' rfl (congrArg Value.bool (by rw [hc6]; rfl)) (Sub.skip rfl (Sub.skip rfl (Sub.skip rfl (Sub.skip rfl (Sub.refl _))))), fun _ s => s⟩
      · skip
        refine WL.idle (Idle.no rfl rfl rfl hc6) rfl rfl ?_
        refine WL.idle (Idle.no rfl rfl rfl hc6) rfl rfl ?_
        refine WL.idle (Idle.no rfl rfl rfl hc6) rfl rfl ?_
        refine WL.quiet (Runs.free rfl) rfl rfl (OV.quiet (ov_pick_false rfl (guard_eq rfl hc6) rfl)) ?_
        exact WL.nil ⟨Sub.cons' rfl (congrArg Value.bool (by rw [hc6]; rfl)) (Sub.skip rfl (Sub.skip rfl (Sub.skip rfl (Sub.skip rfl (Sub.refl _))))), fun _ s => s⟩
    refine WL.quiet (Runs.free rfl) rfl rfl (OV.quiet (ov_move rfl rfl)) ?_
    obtain ⟨c1, e7, hm⟩ := bind_some hm
    refine WL.cut_bool 2 88 (x := c1) ?_ ?_
    · rcases Bool.eq_false_or_eq_true ((r5.1 == r6.1) && (r5.2 == r6.2)) with hc7 | hc7
      · skip
        replace hm := ite_t hc7 e7
        obtain ⟨r7, e8, hm⟩ := bind_some hm
        refine WL.quiet (Runs.yes rfl rfl rfl hc7) rfl rfl (oq_con (r := (.bool r7)) Tryd.call11 rfl rfl (fun w' s => ⟨_, (law03_awake_con   w' H s.hold hG r7 e8)⟩)) ?_
        refine WL.quiet (Runs.free rfl) rfl rfl (OV.quiet (ov_pick_true rfl (guard_eq rfl hc7) rfl)) ?_
        exact WL.nil ⟨Sub.cons' rfl (congrArg Value.bool (Option.some.inj hm)) (Sub.skip rfl (Sub.skip rfl (Sub.refl _))), fun _ s => s⟩
      · skip
        replace hm := ite_f hc7 e7
        refine WL.idle (Idle.no rfl rfl rfl hc7) rfl rfl ?_
        refine WL.quiet (Runs.free rfl) rfl rfl (OV.quiet (ov_pick_false rfl (guard_eq rfl hc7) rfl)) ?_
        exact WL.nil ⟨Sub.cons' rfl (congrArg Value.bool (Option.some.inj hm)) (Sub.skip rfl (Sub.skip rfl (Sub.refl _))), fun _ s => s⟩
    refine WL.quiet (Runs.free rfl) rfl rfl (OV.quiet (ov_assign rfl rfl)) ?_
    refine WL.nil ?_
    refine then_normal ?_
    refine WP.ret ?_
    obtain rfl := Option.some.inj hm
    refine retQ_ret Tryd.results7 (Res.tmp rfl Res.nil) rfl (fun w' s => ⟨s.below, ?_⟩)
    exact rfl

theorem law03_TimespanAdds_con (p_a : Span) (p_b : Span) (p_k : Int) (w : World) (H : Heap) (hH : Le H (hp w)) (hG : Glob H) (r : Bool) (hm : law03_TimespanAdds p_a p_b p_k = some r) :
    Con Tryd.prog 8 [(.agg #[(.int .i64 p_a.low), (.int .i64 p_a.high)]), (.agg #[(.int .i64 p_b.low), (.int .i64 p_b.high)]), (.int .i64 p_k)] w H (fun v _ => v = (.bool r)) := by
  unfold law03_TimespanAdds at hm
  refine con_of hH Tryd.func8 rfl 89 Tryd.ntmps8 rfl ?_
  refine WP.seq ?_
  refine WP.region ?_
  refine WL.step (Runs.free rfl) rfl rfl (os_box (cs := [(.int .i64 p_a.low), (.int .i64 p_a.high)]) rfl rfl rfl (fun b1 => ?_))
  refine WL.step (Runs.free rfl) rfl rfl (os_box (cs := [(.int .i64 p_b.low), (.int .i64 p_b.high)]) rfl rfl rfl (fun b2 => ?_))
  refine WL.quiet (Runs.free rfl) rfl rfl (OV.quiet (ov_assign rfl rfl)) ?_
  refine WL.nil ?_
  refine then_normal ?_
  refine WP.seq ?_
  refine WP.region ?_
  refine WL.quiet (Runs.free rfl) rfl rfl (OV.quiet (ov_move rfl rfl)) ?_
  refine WL.quiet (Runs.free rfl) rfl rfl (OV.quiet (ov_fieldAddr Tryd.underlying23 rfl rfl rfl Tryd.sizeOf3 rfl rfl)) ?_
  refine WL.quiet (Runs.free rfl) rfl rfl (OV.quiet (ov_load_box (i := 0) Tryd.isAgg3 rfl rfl rfl rfl)) ?_
  obtain ⟨r1, e1, hm⟩ := bind_some hm
  refine WL.quiet (Runs.free rfl) rfl rfl (oq_con (r := (.tuple #[(.agg #[(.int .i64 r1.1.low), (.int .i64 r1.1.high)]), (.int .i64 r1.2)])) Tryd.call32 rfl rfl (fun w' s => ⟨_, (timespan_Of_con p_k p_b.high  w' H s.hold hG r1 e1)⟩)) ?_
  refine WL.quiet (Runs.free rfl) rfl rfl (OV.quiet (ov_move rfl rfl)) ?_
  refine WL.quiet (Runs.free rfl) rfl rfl (OV.quiet (ov_extract rfl rfl rfl)) ?_
  refine WL.quiet (Runs.free rfl) rfl rfl (OV.quiet (ov_extract rfl rfl rfl)) ?_
  refine WL.step (Runs.free rfl) rfl rfl (os_alloc (cs := [(.int .i64 0), (.int .i64 0)]) Tryd.zeroValue23 rfl rfl (fun b3 => ?_))
  refine WL.step0 (Runs.free rfl) rfl (os_store (i := 0) (vs := [(.int .i64 r1.1.low), (.int .i64 r1.1.high)]) (cs' := [(.int .i64 r1.1.low), (.int .i64 r1.1.high)]) Tryd.sizeOf23 rfl rfl rfl rfl rfl rfl rfl rfl rfl ?_)
  refine WL.quiet (Runs.free rfl) rfl rfl (OV.quiet (ov_assign rfl rfl)) ?_
  refine WL.nil ?_
  refine then_normal ?_
  refine WP.seq ?_
  refine WP.region ?_
  refine WL.quiet (Runs.free rfl) rfl rfl (OV.quiet (ov_move rfl rfl)) ?_
  refine WL.quiet (Runs.free rfl) rfl rfl (OV.quiet (ov_fieldAddr Tryd.underlying23 rfl rfl rfl Tryd.sizeOf3 rfl rfl)) ?_
  refine WL.quiet (Runs.free rfl) rfl rfl (OV.quiet (ov_load_box (i := 1) Tryd.isAgg3 rfl rfl rfl rfl)) ?_
  obtain ⟨r2, e2, hm⟩ := bind_some hm
  refine WL.quiet (Runs.free rfl) rfl rfl (oq_con (r := (.tuple #[(.agg #[(.int .i64 r2.1.low), (.int .i64 r2.1.high)]), (.int .i64 r2.2)])) Tryd.call33 rfl rfl (fun w' s => ⟨_, (ref03_Of_con p_k p_b.high  w' H s.hold hG r2 e2)⟩)) ?_
  refine WL.quiet (Runs.free rfl) rfl rfl (OV.quiet (ov_move rfl rfl)) ?_
  refine WL.quiet (Runs.free rfl) rfl rfl (OV.quiet (ov_extract rfl rfl rfl)) ?_
  refine WL.quiet (Runs.free rfl) rfl rfl (OV.quiet (ov_extract rfl rfl rfl)) ?_
  refine WL.step (Runs.free rfl) rfl rfl (os_alloc (cs := [(.int .i64 0), (.int .i64 0)]) Tryd.zeroValue23 rfl rfl (fun b4 => ?_))
  refine WL.step0 (Runs.free rfl) rfl (os_store (i := 0) (vs := [(.int .i64 r2.1.low), (.int .i64 r2.1.high)]) (cs' := [(.int .i64 r2.1.low), (.int .i64 r2.1.high)]) Tryd.sizeOf23 rfl rfl rfl rfl rfl rfl rfl rfl rfl ?_)
  refine WL.quiet (Runs.free rfl) rfl rfl (OV.quiet (ov_assign rfl rfl)) ?_
  refine WL.nil ?_
  refine then_normal ?_
  refine WP.seq ?_
  refine WP.seq ?_
  refine WP.region_draws (by kernel_rfl) (by kernel_rfl) (fun _ s => s.drew) ?_
  refine QL.quiet (Runs.free rfl) rfl rfl (OV.quiet (ov_load_whole (i := 3) Tryd.isAgg23 Tryd.sizeOf23 rfl rfl rfl rfl)) ?_
  obtain ⟨r3, e3, hm⟩ := bind_some hm
  refine QL.quiet (Runs.free rfl) rfl rfl (oq_con (r := (.int .i64 r3)) Tryd.call34 rfl rfl (fun w' s => ⟨_, (timespan_Check_con p_a  w' H s.hold hG r3 e3)⟩)) ?_
  refine QL.quiet (Runs.free rfl) rfl rfl (OV.quiet (ov_load_whole (i := 3) Tryd.isAgg23 Tryd.sizeOf23 rfl rfl rfl rfl)) ?_
  obtain ⟨r4, e4, hm⟩ := bind_some hm
  refine QL.quiet (Runs.free rfl) rfl rfl (oq_con (r := (.int .i64 r4)) Tryd.call21 rfl rfl (fun w' s => ⟨_, (ref03_Check_con p_a  w' H s.hold hG r4 e4)⟩)) ?_
  refine QL.quiet (Runs.free rfl) rfl rfl (OV.quiet (ov_neq rfl rfl rfl)) ?_
  refine QL.quiet (Runs.free rfl) rfl rfl (OV.quiet (ov_move rfl rfl)) ?_
  refine QL.part_bool 4 38 (x := ((r3 != r4) || (!(r1.1 == r2.1)))) ?_ ?_
  · rcases Bool.eq_false_or_eq_true (r3 != r4) with hc1 | hc1
    · skip
      refine QL.idle (Idle.no rfl rfl rfl hc1) rfl rfl ?_
      refine QL.idle (Idle.no rfl rfl rfl hc1) rfl rfl ?_
      refine QL.idle (Idle.no rfl rfl rfl hc1) rfl rfl ?_
      refine QL.quiet (Runs.free rfl) rfl rfl (OV.quiet (ov_pick_true rfl (guard_eq rfl hc1) rfl)) ?_
      exact QL.nil (Sub.cons' rfl (congrArg Value.bool (by rw [hc1]; rfl)) (Sub.skip rfl (Sub.skip rfl (Sub.skip rfl (Sub.skip rfl (Sub.refl _))))))
    · skip
      refine QL.quiet (Runs.yes rfl rfl rfl hc1) rfl rfl (OV.quiet (ov_load_whole (i := 1) Tryd.isAgg23 Tryd.sizeOf23 rfl rfl rfl rfl)) ?_
      refine QL.quiet (Runs.yes rfl rfl rfl hc1) rfl rfl (OV.quiet (ov_load_whole (i := 0) Tryd.isAgg23 Tryd.sizeOf23 rfl rfl rfl rfl)) ?_
      refine QL.quiet (Runs.yes rfl rfl rfl hc1) rfl rfl (OV.quiet (neq_struct23 rfl rfl rfl)) ?_
      refine QL.quiet (Runs.free rfl) rfl rfl (OV.quiet (ov_pick_false rfl (guard_eq rfl hc1) rfl)) ?_
      exact QL.nil (Sub.cons' rfl (congrArg Value.bool (by rw [hc1]; rfl)) (Sub.skip rfl (Sub.skip rfl (Sub.skip rfl (Sub.skip rfl (Sub.refl _))))))
  refine QL.quiet (Runs.free rfl) rfl rfl (OV.quiet (ov_move rfl rfl)) ?_
  refine QL.part_bool 4 43 (x := (((r3 != r4) || (!(r1.1 == r2.1))) || (r1.2 != r2.2))) ?_ ?_
  · rcases Bool.eq_false_or_eq_true ((r3 != r4) || (!(r1.1 == r2.1))) with hc2 | hc2
    · skip
      refine QL.idle (Idle.no rfl rfl rfl hc2) rfl rfl ?_
      refine QL.idle (Idle.no rfl rfl rfl hc2) rfl rfl ?_
      refine QL.idle (Idle.no rfl rfl rfl hc2) rfl rfl ?_
      refine QL.quiet (Runs.free rfl) rfl rfl (OV.quiet (ov_pick_true rfl (guard_eq rfl hc2) rfl)) ?_
      exact QL.nil (Sub.cons' rfl (congrArg Value.bool (by rw [hc2]; rfl)) (Sub.skip rfl (Sub.skip rfl (Sub.skip rfl (Sub.skip rfl (Sub.refl _))))))
    · skip
      refine QL.quiet (Runs.yes rfl rfl rfl hc2) rfl rfl (OV.quiet (ov_move rfl rfl)) ?_
      refine QL.quiet (Runs.yes rfl rfl rfl hc2) rfl rfl (OV.quiet (ov_move rfl rfl)) ?_
      refine QL.quiet (Runs.yes rfl rfl rfl hc2) rfl rfl (OV.quiet (ov_neq rfl rfl rfl)) ?_
      refine QL.quiet (Runs.free rfl) rfl rfl (OV.quiet (ov_pick_false rfl (guard_eq rfl hc2) rfl)) ?_
      exact QL.nil (Sub.cons' rfl (congrArg Value.bool (by rw [hc2]; rfl)) (Sub.skip rfl (Sub.skip rfl (Sub.skip rfl (Sub.skip rfl (Sub.refl _))))))
  refine QL.nil ?_
  refine then_normal ?_
  refine WP.cond rfl (fun hc3 => ?_) (fun hc3 => ?_)
  · replace hm := ite_t hc3 hm
    refine WP.seq ?_
    refine WP.region ?_
    refine WL.quiet (Runs.free rfl) rfl rfl (OV.quiet (ov_assign rfl rfl)) ?_
    refine WL.nil ?_
    refine then_normal ?_
    refine WP.ret ?_
    refine then_ret ?_
    obtain rfl := Option.some.inj hm
    refine retQ_ret Tryd.results8 (Res.tmp rfl Res.nil) rfl (fun w' s => ⟨s.below, ?_⟩)
    exact rfl
  · replace hm := ite_f hc3 hm
    refine WP.skip ?_
    refine then_normal ?_
    refine WP.seq ?_
    refine WP.region ?_
    refine WL.quiet (Runs.free rfl) rfl rfl (OV.quiet (ov_load_whole (i := 3) Tryd.isAgg23 Tryd.sizeOf23 rfl rfl rfl rfl)) ?_
    refine WL.quiet (Runs.free rfl) rfl rfl (OV.quiet (ov_load_whole (i := 2) Tryd.isAgg23 Tryd.sizeOf23 rfl rfl rfl rfl)) ?_
    obtain ⟨r5, e5, hm⟩ := bind_some hm
    refine WL.quiet (Runs.free rfl) rfl rfl (oq_con (r := (.tuple #[(.agg #[(.int .i64 r5.1.low), (.int .i64 r5.1.high)]), (.int .i64 r5.2)])) Tryd.call17 rfl rfl (fun w' s => ⟨_, (timespan_Add_con p_a p_b  w' H s.hold hG r5 e5)⟩)) ?_
    refine WL.quiet (Runs.free rfl) rfl rfl (OV.quiet (ov_move rfl rfl)) ?_
    refine WL.quiet (Runs.free rfl) rfl rfl (OV.quiet (ov_extract rfl rfl rfl)) ?_
    refine WL.quiet (Runs.free rfl) rfl rfl (OV.quiet (ov_extract rfl rfl rfl)) ?_
    refine WL.step0 (Runs.free rfl) rfl (os_store (i := 1) (vs := [(.int .i64 r5.1.low), (.int .i64 r5.1.high)]) (cs' := [(.int .i64 r5.1.low), (.int .i64 r5.1.high)]) Tryd.sizeOf23 rfl rfl rfl rfl rfl rfl rfl rfl rfl ?_)
    refine WL.quiet (Runs.free rfl) rfl rfl (OV.quiet (ov_assign rfl rfl)) ?_
    refine WL.nil ?_
    refine then_normal ?_
    refine WP.seq ?_
    refine WP.region ?_
    refine WL.quiet (Runs.free rfl) rfl rfl (OV.quiet (ov_load_whole (i := 3) Tryd.isAgg23 Tryd.sizeOf23 rfl rfl rfl rfl)) ?_
    refine WL.quiet (Runs.free rfl) rfl rfl (OV.quiet (ov_load_whole (i := 2) Tryd.isAgg23 Tryd.sizeOf23 rfl rfl rfl rfl)) ?_
    obtain ⟨r6, e6, hm⟩ := bind_some hm
    refine WL.quiet (Runs.free rfl) rfl rfl (oq_con (r := (.tuple #[(.agg #[(.int .i64 r6.1.low), (.int .i64 r6.1.high)]), (.int .i64 r6.2)])) Tryd.call35 rfl rfl (fun w' s => ⟨_, (ref03_Add_con p_a p_b  w' H s.hold hG r6 e6)⟩)) ?_
    refine WL.quiet (Runs.free rfl) rfl rfl (OV.quiet (ov_move rfl rfl)) ?_
    refine WL.quiet (Runs.free rfl) rfl rfl (OV.quiet (ov_extract rfl rfl rfl)) ?_
    refine WL.quiet (Runs.free rfl) rfl rfl (OV.quiet (ov_extract rfl rfl rfl)) ?_
    refine WL.step0 (Runs.free rfl) rfl (os_store (i := 0) (vs := [(.int .i64 r6.1.low), (.int .i64 r6.1.high)]) (cs' := [(.int .i64 r6.1.low), (.int .i64 r6.1.high)]) Tryd.sizeOf23 rfl rfl rfl rfl rfl rfl rfl rfl rfl ?_)
    refine WL.quiet (Runs.free rfl) rfl rfl (OV.quiet (ov_assign rfl rfl)) ?_
    refine WL.nil ?_
    refine then_normal ?_
    refine WP.seq ?_
    refine WP.region ?_
    refine WL.quiet (Runs.free rfl) rfl rfl (OV.quiet (ov_load_whole (i := 3) Tryd.isAgg23 Tryd.sizeOf23 rfl rfl rfl rfl)) ?_
    refine WL.quiet (Runs.free rfl) rfl rfl (OV.quiet (ov_move rfl rfl)) ?_
    obtain ⟨r7, e7, hm⟩ := bind_some hm
    refine WL.quiet (Runs.free rfl) rfl rfl (oq_con (r := (.tuple #[(.agg #[(.int .i64 r7.1.low), (.int .i64 r7.1.high)]), (.int .i64 r7.2)])) Tryd.call36 rfl rfl (fun w' s => ⟨_, (timespan_Scale_con p_a p_k  w' H s.hold hG r7 e7)⟩)) ?_
    refine WL.quiet (Runs.free rfl) rfl rfl (OV.quiet (ov_move rfl rfl)) ?_
    refine WL.quiet (Runs.free rfl) rfl rfl (OV.quiet (ov_extract rfl rfl rfl)) ?_
    refine WL.quiet (Runs.free rfl) rfl rfl (OV.quiet (ov_extract rfl rfl rfl)) ?_
    refine WL.step (Runs.free rfl) rfl rfl (os_alloc (cs := [(.int .i64 0), (.int .i64 0)]) Tryd.zeroValue23 rfl rfl (fun b5 => ?_))
    refine WL.step0 (Runs.free rfl) rfl (os_store (i := 0) (vs := [(.int .i64 r7.1.low), (.int .i64 r7.1.high)]) (cs' := [(.int .i64 r7.1.low), (.int .i64 r7.1.high)]) Tryd.sizeOf23 rfl rfl rfl rfl rfl rfl rfl rfl rfl ?_)
    refine WL.quiet (Runs.free rfl) rfl rfl (OV.quiet (ov_assign rfl rfl)) ?_
    refine WL.nil ?_
    refine then_normal ?_
    refine WP.seq ?_
    refine WP.region ?_
    refine WL.quiet (Runs.free rfl) rfl rfl (OV.quiet (ov_load_whole (i := 4) Tryd.isAgg23 Tryd.sizeOf23 rfl rfl rfl rfl)) ?_
    refine WL.quiet (Runs.free rfl) rfl rfl (OV.quiet (ov_move rfl rfl)) ?_
    obtain ⟨r8, e8, hm⟩ := bind_some hm
    refine WL.quiet (Runs.free rfl) rfl rfl (oq_con (r := (.tuple #[(.agg #[(.int .i64 r8.1.low), (.int .i64 r8.1.high)]), (.int .i64 r8.2)])) Tryd.call37 rfl rfl (fun w' s => ⟨_, (ref03_Scale_con p_a p_k  w' H s.hold hG r8 e8)⟩)) ?_
    refine WL.quiet (Runs.free rfl) rfl rfl (OV.quiet (ov_move rfl rfl)) ?_
    refine WL.quiet (Runs.free rfl) rfl rfl (OV.quiet (ov_extract rfl rfl rfl)) ?_
    refine WL.quiet (Runs.free rfl) rfl rfl (OV.quiet (ov_extract rfl rfl rfl)) ?_
    refine WL.step (Runs.free rfl) rfl rfl (os_alloc (cs := [(.int .i64 0), (.int .i64 0)]) Tryd.zeroValue23 rfl rfl (fun b6 => ?_))
    refine WL.step0 (Runs.free rfl) rfl (os_store (i := 0) (vs := [(.int .i64 r8.1.low), (.int .i64 r8.1.high)]) (cs' := [(.int .i64 r8.1.low), (.int .i64 r8.1.high)]) Tryd.sizeOf23 rfl rfl rfl rfl rfl rfl rfl rfl rfl ?_)
    refine WL.quiet (Runs.free rfl) rfl rfl (OV.quiet (ov_assign rfl rfl)) ?_
    refine WL.nil ?_
    refine then_normal ?_
    refine WP.seq ?_
    refine WP.region ?_
    refine WL.quiet (Runs.free rfl) rfl rfl (OV.quiet (ov_load_whole (i := 3) Tryd.isAgg23 Tryd.sizeOf23 rfl rfl rfl rfl)) ?_
    refine WL.quiet (Runs.free rfl) rfl rfl (OV.quiet (ov_load_whole (i := 2) Tryd.isAgg23 Tryd.sizeOf23 rfl rfl rfl rfl)) ?_
    refine WL.quiet (Runs.free rfl) rfl rfl (OV.quiet (eql_struct23 rfl rfl rfl)) ?_
    refine WL.quiet (Runs.free rfl) rfl rfl (OV.quiet (ov_move rfl rfl)) ?_
    refine WL.cut_bool 4 75 (x := ((r5.1 == r6.1) && (r5.2 == r6.2))) ?_ ?_
    · rcases Bool.eq_false_or_eq_true (r5.1 == r6.1) with hc4 | hc4
      · skip
        refine WL.quiet (Runs.yes rfl rfl rfl hc4) rfl rfl (OV.quiet (ov_move rfl rfl)) ?_
        refine WL.quiet (Runs.yes rfl rfl rfl hc4) rfl rfl (OV.quiet (ov_move rfl rfl)) ?_
        refine WL.quiet (Runs.yes rfl rfl rfl hc4) rfl rfl (OV.quiet (ov_eql rfl rfl rfl)) ?_
        refine WL.quiet (Runs.free rfl) rfl rfl (OV.quiet (ov_pick_true rfl (guard_eq rfl hc4) rfl)) ?_
        exact WL.nil ⟨Sub.cons' rfl (congrArg Value.bool (by rw [hc4]; rfl)) (Sub.skip rfl (Sub.skip rfl (Sub.skip rfl (Sub.skip rfl (Sub.refl _))))), fun _ s => s⟩
      · skip
        refine WL.idle (Idle.no rfl rfl rfl hc4) rfl rfl ?_
        refine WL.idle (Idle.no rfl rfl rfl hc4) rfl rfl ?_
        refine WL.idle (Idle.no rfl rfl rfl hc4) rfl rfl ?_
        refine WL.quiet (Runs.free rfl) rfl rfl (OV.quiet (ov_pick_false rfl (guard_eq rfl hc4) rfl)) ?_
        exact WL.nil ⟨Sub.cons' rfl (congrArg Value.bool (by rw [hc4]; rfl)) (Sub.skip rfl (Sub.skip rfl (Sub.skip rfl (Sub.skip rfl (Sub.refl _))))), fun _ s => s⟩
    refine WL.quiet (Runs.free rfl) rfl rfl (OV.quiet (ov_move rfl rfl)) ?_
    refine WL.cut_bool 4 80 (x := (((r5.1 == r6.1) && (r5.2 == r6.2)) && (r7.1 == r8.1))) ?_ ?_
    · rcases Bool.eq_false_or_eq_true ((r5.1 == r6.1) && (r5.2 == r6.2)) with hc5 | hc5
      · skip
        refine WL.quiet (Runs.yes rfl rfl rfl hc5) rfl rfl (OV.quiet (ov_load_whole (i := 1) Tryd.isAgg23 Tryd.sizeOf23 rfl rfl rfl rfl)) ?_
        refine WL.quiet (Runs.yes rfl rfl rfl hc5) rfl rfl (OV.quiet (ov_load_whole (i := 0) Tryd.isAgg23 Tryd.sizeOf23 rfl rfl rfl rfl)) ?_
        refine WL.quiet (Runs.yes rfl rfl rfl hc5) rfl rfl (OV.quiet (eql_struct23 rfl rfl rfl)) ?_
        refine WL.quiet (Runs.free rfl) rfl rfl (OV.quiet (ov_pick_true rfl (guard_eq rfl hc5) rfl)) ?_
        exact WL.nil ⟨Sub.cons' rfl (congrArg Value.bool (by rw [hc5]; rfl)) (Sub.skip rfl (Sub.skip rfl (Sub.skip rfl (Sub.skip rfl (Sub.refl _))))), fun _ s => s⟩
      · skip
        refine WL.idle (Idle.no rfl rfl rfl hc5) rfl rfl ?_
        refine WL.idle (Idle.no rfl rfl rfl hc5) rfl rfl ?_
        refine WL.idle (Idle.no rfl rfl rfl hc5) rfl rfl ?_
        refine WL.quiet (Runs.free rfl) rfl rfl (OV.quiet (ov_pick_false rfl (guard_eq rfl hc5) rfl)) ?_
        exact WL.nil ⟨Sub.cons' rfl (congrArg Value.bool (by rw [hc5]; rfl)) (Sub.skip rfl (Sub.skip rfl (Sub.skip rfl (Sub.skip rfl (Sub.refl _))))), fun _ s => s⟩
    refine WL.quiet (Runs.free rfl) rfl rfl (OV.quiet (ov_move rfl rfl)) ?_
    refine WL.cut_bool 4 85 (x := ((((r5.1 == r6.1) && (r5.2 == r6.2)) && (r7.1 == r8.1)) && (r7.2 == r8.2))) ?_ ?_
    · rcases Bool.eq_false_or_eq_true (((r5.1 == r6.1) && (r5.2 == r6.2)) && (r7.1 == r8.1)) with hc6 | hc6
      · skip
        refine WL.quiet (Runs.yes rfl rfl rfl hc6) rfl rfl (OV.quiet (ov_move rfl rfl)) ?_
        refine WL.quiet (Runs.yes rfl rfl rfl hc6) rfl rfl (OV.quiet (ov_move rfl rfl)) ?_
        refine WL.quiet (Runs.yes rfl rfl rfl hc6) rfl rfl (OV.quiet (ov_eql rfl rfl rfl)) ?_
        refine WL.quiet (Runs.free rfl) rfl rfl (OV.quiet (ov_pick_true rfl (guard_eq rfl hc6) rfl)) ?_
        exact WL.nil ⟨Sub.cons' rfl (congrArg Value.bool (by rw [hc6]; rfl)) (Sub.skip rfl (Sub.skip rfl (Sub.skip rfl (Sub.skip rfl (Sub.refl _))))), fun _ s => s⟩
      · skip
        refine WL.idle (Idle.no rfl rfl rfl hc6) rfl rfl ?_
        refine WL.idle (Idle.no rfl rfl rfl hc6) rfl rfl ?_
        refine WL.idle (Idle.no rfl rfl rfl hc6) rfl rfl ?_
        refine WL.quiet (Runs.free rfl) rfl rfl (OV.quiet (ov_pick_false rfl (guard_eq rfl hc6) rfl)) ?_
        exact WL.nil ⟨Sub.cons' rfl (congrArg Value.bool (by rw [hc6]; rfl)) (Sub.skip rfl (Sub.skip rfl (Sub.skip rfl (Sub.skip rfl (Sub.refl _))))), fun _ s => s⟩
    refine WL.quiet (Runs.free rfl) rfl rfl (OV.quiet (ov_move rfl rfl)) ?_
    obtain ⟨c1, e9, hm⟩ := bind_some hm
    refine WL.cut_bool 2 88 (x := c1) ?_ ?_
    · rcases Bool.eq_false_or_eq_true ((((r5.1 == r6.1) && (r5.2 == r6.2)) && (r7.1 == r8.1)) && (r7.2 == r8.2)) with hc7 | hc7
      · skip
        replace hm := ite_t hc7 e9
        obtain ⟨r9, e10, hm⟩ := bind_some hm
        refine WL.quiet (Runs.yes rfl rfl rfl hc7) rfl rfl (oq_con (r := (.bool r9)) Tryd.call11 rfl rfl (fun w' s => ⟨_, (law03_awake_con   w' H s.hold hG r9 e10)⟩)) ?_
        refine WL.quiet (Runs.free rfl) rfl rfl (OV.quiet (ov_pick_true rfl (guard_eq rfl hc7) rfl)) ?_
        exact WL.nil ⟨Sub.cons' rfl (congrArg Value.bool (Option.some.inj hm)) (Sub.skip rfl (Sub.skip rfl (Sub.refl _))), fun _ s => s⟩
      · skip
        replace hm := ite_f hc7 e9
        refine WL.idle (Idle.no rfl rfl rfl hc7) rfl rfl ?_
        refine WL.quiet (Runs.free rfl) rfl rfl (OV.quiet (ov_pick_false rfl (guard_eq rfl hc7) rfl)) ?_
        exact WL.nil ⟨Sub.cons' rfl (congrArg Value.bool (Option.some.inj hm)) (Sub.skip rfl (Sub.skip rfl (Sub.refl _))), fun _ s => s⟩
    refine WL.quiet (Runs.free rfl) rfl rfl (OV.quiet (ov_assign rfl rfl)) ?_
    refine WL.nil ?_
    refine then_normal ?_
    refine WP.ret ?_
    obtain rfl := Option.some.inj hm
    refine retQ_ret Tryd.results8 (Res.tmp rfl Res.nil) rfl (fun w' s => ⟨s.below, ?_⟩)
    exact rfl

theorem law03_TimespanAgrees_con (p_a : Span) (p_b : Span) (w : World) (H : Heap) (hH : Le H (hp w)) (hG : Glob H) (r : Bool) (hm : law03_TimespanAgrees p_a p_b = some r) :
    Con Tryd.prog 9 [(.agg #[(.int .i64 p_a.low), (.int .i64 p_a.high)]), (.agg #[(.int .i64 p_b.low), (.int .i64 p_b.high)])] w H (fun v _ => v = (.bool r)) := by
  unfold law03_TimespanAgrees at hm
  refine con_of hH Tryd.func9 rfl 156 Tryd.ntmps9 rfl ?_
  refine WP.seq ?_
  refine WP.region ?_
  refine WL.step (Runs.free rfl) rfl rfl (os_box (cs := [(.int .i64 p_a.low), (.int .i64 p_a.high)]) rfl rfl rfl (fun b1 => ?_))
  refine WL.step (Runs.free rfl) rfl rfl (os_box (cs := [(.int .i64 p_b.low), (.int .i64 p_b.high)]) rfl rfl rfl (fun b2 => ?_))
  refine WL.quiet (Runs.free rfl) rfl rfl (OV.quiet (ov_assign rfl rfl)) ?_
  refine WL.nil ?_
  refine then_normal ?_
  refine WP.seq ?_
  refine WP.seq ?_
  refine WP.region ?_
  refine WL.quiet (Runs.free rfl) rfl rfl (OV.quiet (ov_load_whole (i := 1) Tryd.isAgg23 Tryd.sizeOf23 rfl rfl rfl rfl)) ?_
  refine WL.quiet (Runs.free rfl) rfl rfl (OV.quiet (ov_load_whole (i := 0) Tryd.isAgg23 Tryd.sizeOf23 rfl rfl rfl rfl)) ?_
  obtain ⟨r1, e1, hm⟩ := bind_some hm
  refine WL.quiet (Runs.free rfl) rfl rfl (oq_con (r := (.bool r1)) Tryd.call16 rfl rfl (fun w' s => ⟨_, (law03_right_con p_a p_b  w' H s.hold hG r1 e1)⟩)) ?_
  refine WL.quiet (Runs.free rfl) rfl rfl (OV.quiet (ov_not rfl rfl)) ?_
  refine WL.nil ?_
  refine then_normal ?_
  refine WP.cond rfl (fun hc1 => ?_) (fun hc1 => ?_)
  · replace hm := ite_t hc1 hm
    refine WP.seq ?_
    refine WP.region ?_
    obtain ⟨r2, e2, hm⟩ := bind_some hm
    refine WL.quiet (Runs.free rfl) rfl rfl (oq_con (r := (.bool r2)) Tryd.call11 rfl rfl (fun w' s => ⟨_, (law03_awake_con   w' H s.hold hG r2 e2)⟩)) ?_
    refine WL.quiet (Runs.free rfl) rfl rfl (OV.quiet (ov_assign rfl rfl)) ?_
    refine WL.nil ?_
    refine then_normal ?_
    refine WP.ret ?_
    refine then_ret ?_
    obtain rfl := Option.some.inj hm
    refine retQ_ret Tryd.results9 (Res.tmp rfl Res.nil) rfl (fun w' s => ⟨s.below, ?_⟩)
    exact rfl
  · replace hm := ite_f hc1 hm
    refine WP.skip ?_
    refine then_normal ?_
    refine WP.seq ?_
    refine WP.region ?_
    refine WL.quiet (Runs.free rfl) rfl rfl (OV.quiet (ov_load_whole (i := 1) Tryd.isAgg23 Tryd.sizeOf23 rfl rfl rfl rfl)) ?_
    refine WL.quiet (Runs.free rfl) rfl rfl (OV.quiet (ov_load_whole (i := 0) Tryd.isAgg23 Tryd.sizeOf23 rfl rfl rfl rfl)) ?_
    obtain ⟨r3, e3, hm⟩ := bind_some hm
    refine WL.quiet (Runs.free rfl) rfl rfl (oq_con (r := (.tuple #[(.agg #[(.int .i64 r3.1.low), (.int .i64 r3.1.high)]), (.int .i64 r3.2)])) Tryd.call17 rfl rfl (fun w' s => ⟨_, (timespan_Add_con p_a p_b  w' H s.hold hG r3 e3)⟩)) ?_
    refine WL.quiet (Runs.free rfl) rfl rfl (OV.quiet (ov_move rfl rfl)) ?_
    refine WL.quiet (Runs.free rfl) rfl rfl (OV.quiet (ov_extract rfl rfl rfl)) ?_
    refine WL.quiet (Runs.free rfl) rfl rfl (OV.quiet (ov_extract rfl rfl rfl)) ?_
    refine WL.step (Runs.free rfl) rfl rfl (os_alloc (cs := [(.int .i64 0), (.int .i64 0)]) Tryd.zeroValue23 rfl rfl (fun b3 => ?_))
    refine WL.step0 (Runs.free rfl) rfl (os_store (i := 0) (vs := [(.int .i64 r3.1.low), (.int .i64 r3.1.high)]) (cs' := [(.int .i64 r3.1.low), (.int .i64 r3.1.high)]) Tryd.sizeOf23 rfl rfl rfl rfl rfl rfl rfl rfl rfl ?_)
    refine WL.quiet (Runs.free rfl) rfl rfl (OV.quiet (ov_assign rfl rfl)) ?_
    refine WL.nil ?_
    refine then_normal ?_
    refine WP.seq ?_
    refine WP.region ?_
    refine WL.quiet (Runs.free rfl) rfl rfl (OV.quiet (ov_load_whole (i := 2) Tryd.isAgg23 Tryd.sizeOf23 rfl rfl rfl rfl)) ?_
    refine WL.quiet (Runs.free rfl) rfl rfl (OV.quiet (ov_load_whole (i := 1) Tryd.isAgg23 Tryd.sizeOf23 rfl rfl rfl rfl)) ?_
    obtain ⟨r4, e4, hm⟩ := bind_some hm
    refine WL.quiet (Runs.free rfl) rfl rfl (oq_con (r := (.tuple #[(.agg #[(.int .i64 r4.1.low), (.int .i64 r4.1.high)]), (.int .i64 r4.2)])) Tryd.call18 rfl rfl (fun w' s => ⟨_, (timespan_Later_con p_a p_b  w' H s.hold hG r4 e4)⟩)) ?_
    refine WL.quiet (Runs.free rfl) rfl rfl (OV.quiet (ov_move rfl rfl)) ?_
    refine WL.quiet (Runs.free rfl) rfl rfl (OV.quiet (ov_extract rfl rfl rfl)) ?_
    refine WL.quiet (Runs.free rfl) rfl rfl (OV.quiet (ov_extract rfl rfl rfl)) ?_
    refine WL.step (Runs.free rfl) rfl rfl (os_alloc (cs := [(.int .i64 0), (.int .i64 0)]) Tryd.zeroValue23 rfl rfl (fun b4 => ?_))
    refine WL.step0 (Runs.free rfl) rfl (os_store (i := 0) (vs := [(.int .i64 r4.1.low), (.int .i64 r4.1.high)]) (cs' := [(.int .i64 r4.1.low), (.int .i64 r4.1.high)]) Tryd.sizeOf23 rfl rfl rfl rfl rfl rfl rfl rfl rfl ?_)
    refine WL.quiet (Runs.free rfl) rfl rfl (OV.quiet (ov_assign rfl rfl)) ?_
    refine WL.nil ?_
    refine then_normal ?_
    refine WP.seq ?_
    refine WP.region ?_
    refine WL.quiet (Runs.free rfl) rfl rfl (OV.quiet (ov_load_whole (i := 3) Tryd.isAgg23 Tryd.sizeOf23 rfl rfl rfl rfl)) ?_
    refine WL.quiet (Runs.free rfl) rfl rfl (OV.quiet (ov_load_whole (i := 2) Tryd.isAgg23 Tryd.sizeOf23 rfl rfl rfl rfl)) ?_
    obtain ⟨r5, e5, hm⟩ := bind_some hm
    refine WL.quiet (Runs.free rfl) rfl rfl (oq_con (r := (.tuple #[(.agg #[(.int .i64 r5.1.low), (.int .i64 r5.1.high)]), (.int .i64 r5.2)])) Tryd.call19 rfl rfl (fun w' s => ⟨_, (timespan_Earlier_con p_a p_b  w' H s.hold hG r5 e5)⟩)) ?_
    refine WL.quiet (Runs.free rfl) rfl rfl (OV.quiet (ov_move rfl rfl)) ?_
    refine WL.quiet (Runs.free rfl) rfl rfl (OV.quiet (ov_extract rfl rfl rfl)) ?_
    refine WL.quiet (Runs.free rfl) rfl rfl (OV.quiet (ov_extract rfl rfl rfl)) ?_
    refine WL.step (Runs.free rfl) rfl rfl (os_alloc (cs := [(.int .i64 0), (.int .i64 0)]) Tryd.zeroValue23 rfl rfl (fun b5 => ?_))
    refine WL.step0 (Runs.free rfl) rfl (os_store (i := 0) (vs := [(.int .i64 r5.1.low), (.int .i64 r5.1.high)]) (cs' := [(.int .i64 r5.1.low), (.int .i64 r5.1.high)]) Tryd.sizeOf23 rfl rfl rfl rfl rfl rfl rfl rfl rfl ?_)
    refine WL.quiet (Runs.free rfl) rfl rfl (OV.quiet (ov_assign rfl rfl)) ?_
    refine WL.nil ?_
    refine then_normal ?_
    refine WP.seq ?_
    refine WP.region ?_
    refine WL.quiet (Runs.free rfl) rfl rfl (OV.quiet (ov_load_whole (i := 0) Tryd.isAgg23 Tryd.sizeOf23 rfl rfl rfl rfl)) ?_
    refine WL.quiet (Runs.free rfl) rfl rfl (OV.quiet (ov_load_whole (i := 1) Tryd.isAgg23 Tryd.sizeOf23 rfl rfl rfl rfl)) ?_
    obtain ⟨r6, e6, hm⟩ := bind_some hm
    refine WL.quiet (Runs.free rfl) rfl rfl (oq_con (r := (.tuple #[(.agg #[(.int .i64 r6.1.low), (.int .i64 r6.1.high)]), (.int .i64 r6.2)])) Tryd.call17 rfl rfl (fun w' s => ⟨_, (timespan_Add_con r5.1 r4.1  w' H s.hold hG r6 e6)⟩)) ?_
    refine WL.quiet (Runs.free rfl) rfl rfl (OV.quiet (ov_move rfl rfl)) ?_
    refine WL.quiet (Runs.free rfl) rfl rfl (OV.quiet (ov_extract rfl rfl rfl)) ?_
    refine WL.quiet (Runs.free rfl) rfl rfl (OV.quiet (ov_extract rfl rfl rfl)) ?_
    refine WL.step (Runs.free rfl) rfl rfl (os_alloc (cs := [(.int .i64 0), (.int .i64 0)]) Tryd.zeroValue23 rfl rfl (fun b6 => ?_))
    refine WL.step0 (Runs.free rfl) rfl (os_store (i := 0) (vs := [(.int .i64 r6.1.low), (.int .i64 r6.1.high)]) (cs' := [(.int .i64 r6.1.low), (.int .i64 r6.1.high)]) Tryd.sizeOf23 rfl rfl rfl rfl rfl rfl rfl rfl rfl ?_)
    refine WL.quiet (Runs.free rfl) rfl rfl (OV.quiet (ov_assign rfl rfl)) ?_
    refine WL.nil ?_
    refine then_normal ?_
    refine WP.seq ?_
    refine WP.region ?_
    refine WL.quiet (Runs.free rfl) rfl rfl (OV.quiet (ov_load_whole (i := 5) Tryd.isAgg23 Tryd.sizeOf23 rfl rfl rfl rfl)) ?_
    refine WL.quiet (Runs.free rfl) rfl rfl (OV.quiet (ov_load_whole (i := 4) Tryd.isAgg23 Tryd.sizeOf23 rfl rfl rfl rfl)) ?_
    obtain ⟨r7, e7, hm⟩ := bind_some hm
    refine WL.quiet (Runs.free rfl) rfl rfl (oq_con (r := (.tuple #[(.agg #[(.int .i64 r7.1.low), (.int .i64 r7.1.high)]), (.int .i64 r7.2)])) Tryd.call24 rfl rfl (fun w' s => ⟨_, (timespan_Hull_con p_a p_b  w' H s.hold hG r7 e7)⟩)) ?_
    refine WL.quiet (Runs.free rfl) rfl rfl (OV.quiet (ov_move rfl rfl)) ?_
    refine WL.quiet (Runs.free rfl) rfl rfl (OV.quiet (ov_extract rfl rfl rfl)) ?_
    refine WL.quiet (Runs.free rfl) rfl rfl (OV.quiet (ov_extract rfl rfl rfl)) ?_
    refine WL.step (Runs.free rfl) rfl rfl (os_alloc (cs := [(.int .i64 0), (.int .i64 0)]) Tryd.zeroValue23 rfl rfl (fun b7 => ?_))
    refine WL.step0 (Runs.free rfl) rfl (os_store (i := 0) (vs := [(.int .i64 r7.1.low), (.int .i64 r7.1.high)]) (cs' := [(.int .i64 r7.1.low), (.int .i64 r7.1.high)]) Tryd.sizeOf23 rfl rfl rfl rfl rfl rfl rfl rfl rfl ?_)
    refine WL.quiet (Runs.free rfl) rfl rfl (OV.quiet (ov_assign rfl rfl)) ?_
    refine WL.nil ?_
    refine then_normal ?_
    refine WP.seq ?_
    refine WP.seq ?_
    refine WP.region ?_
    refine WL.quiet (Runs.free rfl) rfl rfl (OV.quiet (ov_move rfl rfl)) ?_
    refine WL.quiet (Runs.free rfl) rfl rfl (OV.quiet (ov_move rfl rfl)) ?_
    refine WL.quiet (Runs.free rfl) rfl rfl (OV.quiet (ov_add rfl rfl rfl)) ?_
    refine WL.quiet (Runs.free rfl) rfl rfl (OV.quiet (ov_move rfl rfl)) ?_
    refine WL.quiet (Runs.free rfl) rfl rfl (OV.quiet (ov_add rfl rfl rfl)) ?_
    refine WL.quiet (Runs.free rfl) rfl rfl (OV.quiet (ov_move rfl rfl)) ?_
    refine WL.quiet (Runs.free rfl) rfl rfl (OV.quiet (ov_add rfl rfl rfl)) ?_
    refine WL.quiet (Runs.free rfl) rfl rfl (OV.quiet (ov_move rfl rfl)) ?_
    refine WL.quiet (Runs.free rfl) rfl rfl (OV.quiet (ov_add rfl rfl rfl)) ?_
    refine WL.quiet (Runs.free rfl) rfl rfl (OV.quiet (ov_neq rfl rfl rfl)) ?_
    refine WL.quiet (Runs.free rfl) rfl rfl (OV.quiet (ov_move rfl rfl)) ?_
    refine WL.cut_bool 4 73 (x := (((IntKind.wrap .i64 ((IntKind.wrap .i64 ((IntKind.wrap .i64 ((IntKind.wrap .i64 (r3.2 + r4.2)) + r5.2)) + r6.2)) + r7.2)) != 0) || (!(r6.1 == r3.1)))) ?_ ?_
    · rcases Bool.eq_false_or_eq_true ((IntKind.wrap .i64 ((IntKind.wrap .i64 ((IntKind.wrap .i64 ((IntKind.wrap .i64 (r3.2 + r4.2)) + r5.2)) + r6.2)) + r7.2)) != 0) with hc2 | hc2
      · skip
        refine WL.idle (Idle.no rfl rfl rfl hc2) rfl rfl ?_
        refine WL.idle (Idle.no rfl rfl rfl hc2) rfl rfl ?_
        refine WL.idle (Idle.no rfl rfl rfl hc2) rfl rfl ?_
        refine WL.quiet (Runs.free rfl) rfl rfl (OV.quiet (ov_pick_true rfl (guard_eq rfl hc2) rfl)) ?_
        exact WL.nil ⟨Sub.cons' rfl (congrArg Value.bool (by rw [hc2]; rfl)) (Sub.skip rfl (Sub.skip rfl (Sub.skip rfl (Sub.skip rfl (Sub.refl _))))), fun _ s => s⟩
      · skip
        refine WL.quiet (Runs.yes rfl rfl rfl hc2) rfl rfl (OV.quiet (ov_load_whole (i := 1) Tryd.isAgg23 Tryd.sizeOf23 rfl rfl rfl rfl)) ?_
        refine WL.quiet (Runs.yes rfl rfl rfl hc2) rfl rfl (OV.quiet (ov_load_whole (i := 4) Tryd.isAgg23 Tryd.sizeOf23 rfl rfl rfl rfl)) ?_
        refine WL.quiet (Runs.yes rfl rfl rfl hc2) rfl rfl (OV.quiet (neq_struct23 rfl rfl rfl)) ?_
        refine WL.quiet (Runs.free rfl) rfl rfl (OV.quiet (ov_pick_false rfl (guard_eq rfl hc2) rfl)) ?_
        exact WL.nil ⟨Sub.cons' rfl (congrArg Value.bool (by rw [hc2]; rfl)) (Sub.skip rfl (Sub.skip rfl (Sub.skip rfl (Sub.skip rfl (Sub.refl _))))), fun _ s => s⟩
    refine WL.nil ?_
    refine then_normal ?_
    refine WP.cond rfl (fun hc3 => ?_) (fun hc3 => ?_)
    · replace hm := ite_t hc3 hm
      refine WP.seq ?_
      refine WP.region ?_
      refine WL.quiet (Runs.free rfl) rfl rfl (OV.quiet (ov_assign rfl rfl)) ?_
      refine WL.nil ?_
      refine then_normal ?_
      refine WP.ret ?_
      refine then_ret ?_
      obtain rfl := Option.some.inj hm
      refine retQ_ret Tryd.results9 (Res.tmp rfl Res.nil) rfl (fun w' s => ⟨s.below, ?_⟩)
      exact rfl
    · replace hm := ite_f hc3 hm
      refine WP.skip ?_
      refine then_normal ?_
      obtain ⟨k1, hk1, hm⟩ := joinK_some hm
      refine WP.seq_join (fun g' S' => ∃ (H2 : Heap), Le H H2 ∧ Sub [(2, (pB b1 0)), (3, (pB b2 0))] g' ∧ (∀ w', S' w' → St w H [.blk b2 23 [(.int .i64 p_b.low), (.int .i64 p_b.high)], .blk b1 23 [(.int .i64 p_a.low), (.int .i64 p_a.high)]] H2 w') ∧ k1 = some r) ?_ ?_
      · skip
        refine WP.seq ?_
        refine WP.region ?_
        refine WL.quiet (Runs.free rfl) rfl rfl (OV.quiet (ov_load_whole (i := 6) Tryd.isAgg23 Tryd.sizeOf23 rfl rfl rfl rfl)) ?_
        refine WL.quiet (Runs.free rfl) rfl rfl (OV.quiet (ov_load_whole (i := 5) Tryd.isAgg23 Tryd.sizeOf23 rfl rfl rfl rfl)) ?_
        have rl1 : RL H encSpan ([p_a, p_b] : List Span) [(.int .i64 p_a.low), (.int .i64 p_a.high), (.int .i64 p_b.low), (.int .i64 p_b.high)] := RL.cons (cs := [(.int .i64 p_a.low), (.int .i64 p_a.high)]) (xs := [(.int .i64 p_b.low), (.int .i64 p_b.high)]) rfl (RL.cons (cs := [(.int .i64 p_b.low), (.int .i64 p_b.high)]) (xs := []) rfl (RL.nil _ _))
        refine WL.step (Runs.free rfl) rfl rfl (os_buildSlice (cs := [(.int .i64 p_a.low), (.int .i64 p_a.high), (.int .i64 p_b.low), (.int .i64 p_b.high)]) (E := 23) (sz := 2) rfl rfl (fun _ => by kernel_rfl) rfl (by decide) (fun b8 => ?_))
        refine WL.held rl1 (fun H1 hc4 hle1 h1 => ?_)
        replace hG := hG.mono hle1
        refine WL.quiet (Runs.free rfl) rfl rfl (OV.quiet (ov_len_slice Tryd.underlying61 rfl rfl)) ?_
        refine WL.quiet (Runs.free rfl) rfl rfl (OV.quiet (ov_move rfl rfl)) ?_
        refine WL.nil ?_
        refine then_normal ?_
        refine WP.block ?_
        refine WP.loop (fun m1 g' S' => ∃ (i1 : Int), Sub [(2, (pB b1 0)), (3, (pB b2 0)), (13, (pB b7 0)), (76, (.slice (some ⟨b8, 0, none⟩) ([p_a, p_b] : List Span).length 2)), (77, (.int .i64 (([p_a, p_b] : List Span).length : Int))), (78, (.int .i64 i1))] g' ∧ (∀ w', S' w' → St w H [.blk b7 23 [(.int .i64 r7.1.low), (.int .i64 r7.1.high)], .blk b2 23 [(.int .i64 p_b.low), (.int .i64 p_b.high)], .blk b1 23 [(.int .i64 p_a.low), (.int .i64 p_a.high)]] H1 w') ∧ law03_TimespanAgrees_loop1 p_a p_b r7 k1 m1 i1 = some r) ((Int.toNat ((([p_a, p_b] : List Span).length : Int) - 0) + 1)) ⟨0, (Sub.cons rfl (Sub.cons rfl (Sub.cons rfl (Sub.cons rfl (Sub.cons rfl (Sub.cons rfl (Sub.nil _))))))), fun w' s => (s.select [0, 5, 6] (by decide) rfl), hm⟩ ?_ ?_
        · rintro g' S' ⟨_, _, _, hm⟩
          exact none_some hm
        · rintro m1 g' S' ⟨i1, hsub1, hS1, hm⟩
          refine WP.sub hsub1 (WP.weaken hS1 ?_)
          rw [law03_TimespanAgrees_loop1] at hm
          refine WP.seq ?_
          refine WP.region ?_
          refine WL.quiet (Runs.free rfl) rfl rfl (OV.quiet (ov_lss rfl rfl rfl)) ?_
          refine WL.nil ?_
          refine then_normal ?_
          refine WP.seq ?_
          refine WP.cond rfl (fun hc5 => ?_) (fun hc5 => ?_)
          · replace hm := ite_t hc5 hm
            refine WP.skip ?_
            refine then_normal ?_
            refine WP.seq ?_
            refine WP.block ?_
            refine WP.seq ?_
            refine WP.region ?_
            obtain ⟨x1, e8, hm⟩ := bind_some hm
            obtain ⟨h2, h3, h4, cs1, h5, h6⟩ := h1.get e8 (by decide)
            obtain rfl : cs1 = [(.int .i64 x1.low), (.int .i64 x1.high)] := h5
            refine WL.quiet (Runs.free rfl) rfl rfl (OV.quiet (ov_indexAddr Tryd.underlying61 Tryd.sizeOf23 rfl rfl rfl h2 h3 h4)) ?_
            refine WL.quiet (Runs.free rfl) rfl rfl (OV.quiet (ov_load_elems (vs := [(.int .i64 x1.low), (.int .i64 x1.high)]) Tryd.isAgg23 Tryd.sizeOf23 rfl rfl rfl h6 h4)) ?_
            refine WL.step (Runs.free rfl) rfl rfl (os_alloc (cs := [(.int .i64 0), (.int .i64 0)]) Tryd.zeroValue23 rfl rfl (fun b9 => ?_))
            refine WL.step0 (Runs.free rfl) rfl (os_store (i := 0) (vs := [(.int .i64 x1.low), (.int .i64 x1.high)]) (cs' := [(.int .i64 x1.low), (.int .i64 x1.high)]) Tryd.sizeOf23 rfl rfl rfl rfl rfl rfl rfl rfl rfl ?_)
            refine WL.nil ?_
            refine then_normal ?_
            refine WP.seq ?_
            refine WP.region ?_
            refine WL.quiet (Runs.free rfl) rfl rfl (OV.quiet (ov_load_whole (i := 0) Tryd.isAgg23 Tryd.sizeOf23 rfl rfl rfl rfl)) ?_
            refine WL.quiet (Runs.free rfl) rfl rfl (OV.quiet (ov_load_whole (i := 1) Tryd.isAgg23 Tryd.sizeOf23 rfl rfl rfl rfl)) ?_
            obtain ⟨r8, e9, hm⟩ := bind_some hm
            refine WL.quiet (Runs.free rfl) rfl rfl (oq_con (r := (.tuple #[(.bool r8.1), (.int .i64 r8.2)])) Tryd.call28 rfl rfl (fun w' s => ⟨_, (timespan_Within_con x1 r7.1  w' H1 s.hold hG r8 e9)⟩)) ?_
            refine WL.quiet (Runs.free rfl) rfl rfl (OV.quiet (ov_move rfl rfl)) ?_
            refine WL.quiet (Runs.free rfl) rfl rfl (OV.quiet (ov_extract rfl rfl rfl)) ?_
            refine WL.quiet (Runs.free rfl) rfl rfl (OV.quiet (ov_extract rfl rfl rfl)) ?_
            refine WL.quiet (Runs.free rfl) rfl rfl (OV.quiet (ov_assign rfl rfl)) ?_
            refine WL.quiet (Runs.free rfl) rfl rfl (OV.quiet (ov_assign rfl rfl)) ?_
            refine WL.nil ?_
            refine then_normal ?_
            refine WP.seq ?_
            refine WP.region ?_
            refine WL.quiet (Runs.free rfl) rfl rfl (OV.quiet (ov_move rfl rfl)) ?_
            refine WL.quiet (Runs.free rfl) rfl rfl (OV.quiet (ov_neq rfl rfl rfl)) ?_
            refine WL.quiet (Runs.free rfl) rfl rfl (OV.quiet (ov_move rfl rfl)) ?_
            refine WL.cut_bool 3 93 (x := ((r8.2 != 0) || (!r8.1))) ?_ ?_
            · rcases Bool.eq_false_or_eq_true (r8.2 != 0) with hc6 | hc6
              · skip
                refine WL.idle (Idle.no rfl rfl rfl hc6) rfl rfl ?_
                refine WL.idle (Idle.no rfl rfl rfl hc6) rfl rfl ?_
                refine WL.quiet (Runs.free rfl) rfl rfl (OV.quiet (ov_pick_true rfl (guard_eq rfl hc6) rfl)) ?_
                exact WL.nil ⟨Sub.cons' rfl (congrArg Value.bool (by rw [hc6]; rfl)) (Sub.skip rfl (Sub.skip rfl (Sub.skip rfl (Sub.refl _)))), fun _ s => s⟩
              · skip
                refine WL.quiet (Runs.yes rfl rfl rfl hc6) rfl rfl (OV.quiet (ov_move rfl rfl)) ?_
                refine WL.quiet (Runs.yes rfl rfl rfl hc6) rfl rfl (OV.quiet (ov_not rfl rfl)) ?_
                refine WL.quiet (Runs.free rfl) rfl rfl (OV.quiet (ov_pick_false rfl (guard_eq rfl hc6) rfl)) ?_
                exact WL.nil ⟨Sub.cons' rfl (congrArg Value.bool (by rw [hc6]; rfl)) (Sub.skip rfl (Sub.skip rfl (Sub.skip rfl (Sub.refl _)))), fun _ s => s⟩
            refine WL.nil ?_
            refine then_normal ?_
            refine WP.cond rfl (fun hc7 => ?_) (fun hc7 => ?_)
            · replace hm := ite_t hc7 hm
              refine WP.seq ?_
              refine WP.region ?_
              refine WL.quiet (Runs.free rfl) rfl rfl (OV.quiet (ov_assign rfl rfl)) ?_
              refine WL.nil ?_
              refine then_normal ?_
              refine WP.ret ?_
              refine block_ret ?_
              refine then_ret ?_
              refine then_ret ?_
              refine block_ret ?_
              refine then_ret ?_
              obtain rfl := Option.some.inj hm
              refine retQ_ret Tryd.results9 (Res.tmp rfl Res.nil) rfl (fun w' s => ⟨s.below, ?_⟩)
              exact rfl
            · replace hm := ite_f hc7 hm
              refine WP.skip ?_
              refine block_normal ?_
              refine then_normal ?_
              refine WP.region ?_
              refine WL.quiet (Runs.free rfl) rfl rfl (OV.quiet (ov_add rfl rfl rfl)) ?_
              refine WL.quiet (Runs.free rfl) rfl rfl (OV.quiet (ov_move rfl rfl)) ?_
              refine WL.nil ?_
              refine then_normal ?_
              exact ⟨(IntKind.wrap .i64 (i1 + 1)), (Sub.cons rfl (Sub.cons rfl (Sub.cons rfl (Sub.cons rfl (Sub.cons rfl (Sub.cons rfl (Sub.nil _))))))), fun w' s => (s.select [1, 2, 3] (by decide) rfl), hm⟩
          · replace hm := ite_f hc5 hm
            refine WP.exit ?_
            refine then_exit ?_
            refine then_exit ?_
            refine block_here ?_
            refine then_normal ?_
            exact ⟨H1, hle1, (Sub.cons rfl (Sub.cons rfl (Sub.nil _))), fun w' s => (s.select [1, 2] (by decide) rfl), hm⟩
      · rintro g' S' ⟨H2, hle2, hsub2, hS2, hm⟩
        refine WP.sub hsub2 (WP.weaken hS2 ?_)
        replace hm := hk1.symm.trans hm
        replace hG := hG.mono hle2
        refine WP.seq ?_
        refine WP.region ?_
        refine WL.quiet (Runs.free rfl) rfl rfl (OV.quiet (ov_load_whole (i := 1) Tryd.isAgg23 Tryd.sizeOf23 rfl rfl rfl rfl)) ?_
        refine WL.quiet (Runs.free rfl) rfl rfl (OV.quiet (ov_load_whole (i := 0) Tryd.isAgg23 Tryd.sizeOf23 rfl rfl rfl rfl)) ?_
        obtain ⟨r9, e10, hm⟩ := bind_some hm
        refine WL.quiet (Runs.free rfl) rfl rfl (oq_con (r := (.tuple #[(.agg #[(.int .i64 r9.1.low), (.int .i64 r9.1.high)]), (.bool r9.2.1), (.int .i64 r9.2.2)])) Tryd.call26 rfl rfl (fun w' s => ⟨_, (timespan_Meet_con p_a p_b  w' H2 s.hold hG r9 e10)⟩)) ?_
        refine WL.quiet (Runs.free rfl) rfl rfl (OV.quiet (ov_move rfl rfl)) ?_
        refine WL.quiet (Runs.free rfl) rfl rfl (OV.quiet (ov_extract rfl rfl rfl)) ?_
        refine WL.quiet (Runs.free rfl) rfl rfl (OV.quiet (ov_extract rfl rfl rfl)) ?_
        refine WL.quiet (Runs.free rfl) rfl rfl (OV.quiet (ov_extract rfl rfl rfl)) ?_
        refine WL.step (Runs.free rfl) rfl rfl (os_alloc (cs := [(.int .i64 0), (.int .i64 0)]) Tryd.zeroValue23 rfl rfl (fun b10 => ?_))
        refine WL.step0 (Runs.free rfl) rfl (os_store (i := 0) (vs := [(.int .i64 r9.1.low), (.int .i64 r9.1.high)]) (cs' := [(.int .i64 r9.1.low), (.int .i64 r9.1.high)]) Tryd.sizeOf23 rfl rfl rfl rfl rfl rfl rfl rfl rfl ?_)
        refine WL.quiet (Runs.free rfl) rfl rfl (OV.quiet (ov_assign rfl rfl)) ?_
        refine WL.quiet (Runs.free rfl) rfl rfl (OV.quiet (ov_assign rfl rfl)) ?_
        refine WL.nil ?_
        refine then_normal ?_
        refine WP.seq ?_
        refine WP.region ?_
        refine WL.quiet (Runs.free rfl) rfl rfl (OV.quiet (ov_load_whole (i := 2) Tryd.isAgg23 Tryd.sizeOf23 rfl rfl rfl rfl)) ?_
        refine WL.quiet (Runs.free rfl) rfl rfl (OV.quiet (ov_load_whole (i := 1) Tryd.isAgg23 Tryd.sizeOf23 rfl rfl rfl rfl)) ?_
        obtain ⟨r10, e11, hm⟩ := bind_some hm
        refine WL.quiet (Runs.free rfl) rfl rfl (oq_con (r := (.tuple #[(.int .i64 r10.1), (.int .i64 r10.2)])) Tryd.call30 rfl rfl (fun w' s => ⟨_, (timespan_Compare_con p_a p_b  w' H2 s.hold hG r10 e11)⟩)) ?_
        refine WL.quiet (Runs.free rfl) rfl rfl (OV.quiet (ov_move rfl rfl)) ?_
        refine WL.quiet (Runs.free rfl) rfl rfl (OV.quiet (ov_extract rfl rfl rfl)) ?_
        refine WL.quiet (Runs.free rfl) rfl rfl (OV.quiet (ov_extract rfl rfl rfl)) ?_
        refine WL.quiet (Runs.free rfl) rfl rfl (OV.quiet (ov_assign rfl rfl)) ?_
        refine WL.quiet (Runs.free rfl) rfl rfl (OV.quiet (ov_assign rfl rfl)) ?_
        refine WL.nil ?_
        refine then_normal ?_
        refine WP.seq ?_
        refine WP.seq ?_
        refine WP.region ?_
        refine WL.quiet (Runs.free rfl) rfl rfl (OV.quiet (ov_move rfl rfl)) ?_
        refine WL.quiet (Runs.free rfl) rfl rfl (OV.quiet (ov_move rfl rfl)) ?_
        refine WL.quiet (Runs.free rfl) rfl rfl (OV.quiet (ov_add rfl rfl rfl)) ?_
        refine WL.quiet (Runs.free rfl) rfl rfl (OV.quiet (ov_neq rfl rfl rfl)) ?_
        refine WL.quiet (Runs.free rfl) rfl rfl (OV.quiet (ov_move rfl rfl)) ?_
        refine WL.cut_bool 5 117 (x := (((IntKind.wrap .i64 (r9.2.2 + r10.2)) != 0) || (!(r9.2.1 == (r10.1 == 0))))) ?_ ?_
        · rcases Bool.eq_false_or_eq_true ((IntKind.wrap .i64 (r9.2.2 + r10.2)) != 0) with hc8 | hc8
          · skip
            refine WL.idle (Idle.no rfl rfl rfl hc8) rfl rfl ?_
            refine WL.idle (Idle.no rfl rfl rfl hc8) rfl rfl ?_
            refine WL.idle (Idle.no rfl rfl rfl hc8) rfl rfl ?_
            refine WL.idle (Idle.no rfl rfl rfl hc8) rfl rfl ?_
            refine WL.quiet (Runs.free rfl) rfl rfl (OV.quiet (ov_pick_true rfl (guard_eq rfl hc8) rfl)) ?_
            exact WL.nil ⟨Sub.cons' rfl (congrArg Value.bool (by rw [hc8]; rfl)) (Sub.skip rfl (Sub.skip rfl (Sub.skip rfl (Sub.skip rfl (Sub.skip rfl (Sub.refl _)))))), fun _ s => s⟩
          · skip
            refine WL.quiet (Runs.yes rfl rfl rfl hc8) rfl rfl (OV.quiet (ov_move rfl rfl)) ?_
            refine WL.quiet (Runs.yes rfl rfl rfl hc8) rfl rfl (OV.quiet (ov_move rfl rfl)) ?_
            refine WL.quiet (Runs.yes rfl rfl rfl hc8) rfl rfl (OV.quiet (ov_eql rfl rfl rfl)) ?_
            refine WL.quiet (Runs.yes rfl rfl rfl hc8) rfl rfl (OV.quiet (ov_bneq Tryd.underlying4 rfl rfl rfl)) ?_
            refine WL.quiet (Runs.free rfl) rfl rfl (OV.quiet (ov_pick_false rfl (guard_eq rfl hc8) rfl)) ?_
            exact WL.nil ⟨Sub.cons' rfl (congrArg Value.bool (by rw [hc8]; rfl)) (Sub.skip rfl (Sub.skip rfl (Sub.skip rfl (Sub.skip rfl (Sub.skip rfl (Sub.refl _)))))), fun _ s => s⟩
        refine WL.nil ?_
        refine then_normal ?_
        refine WP.cond rfl (fun hc9 => ?_) (fun hc9 => ?_)
        · replace hm := ite_t hc9 hm
          refine WP.seq ?_
          refine WP.region ?_
          refine WL.quiet (Runs.free rfl) rfl rfl (OV.quiet (ov_assign rfl rfl)) ?_
          refine WL.nil ?_
          refine then_normal ?_
          refine WP.ret ?_
          refine then_ret ?_
          obtain rfl := Option.some.inj hm
          refine retQ_ret Tryd.results9 (Res.tmp rfl Res.nil) rfl (fun w' s => ⟨s.below, ?_⟩)
          exact rfl
        · replace hm := ite_f hc9 hm
          refine WP.skip ?_
          refine then_normal ?_
          refine WP.seq ?_
          refine WP.seq ?_
          refine WP.region ?_
          refine WL.quiet (Runs.free rfl) rfl rfl (OV.quiet (ov_move rfl rfl)) ?_
          refine WL.quiet (Runs.free rfl) rfl rfl (OV.quiet (ov_not rfl rfl)) ?_
          refine WL.nil ?_
          refine then_normal ?_
          refine WP.cond rfl (fun hc10 => ?_) (fun hc10 => ?_)
          · replace hm := ite_t hc10 hm
            refine WP.seq ?_
            refine WP.region ?_
            refine WL.quiet (Runs.free rfl) rfl rfl (OV.quiet (ov_move rfl rfl)) ?_
            refine WL.quiet (Runs.free rfl) rfl rfl (OV.quiet (ov_eql rfl rfl rfl)) ?_
            refine WL.quiet (Runs.free rfl) rfl rfl (OV.quiet (ov_fieldAddr Tryd.underlying23 rfl rfl rfl Tryd.sizeOf3 rfl rfl)) ?_
            refine WL.quiet (Runs.free rfl) rfl rfl (OV.quiet (ov_load_box (i := 2) Tryd.isAgg3 rfl rfl rfl rfl)) ?_
            refine WL.quiet (Runs.free rfl) rfl rfl (OV.quiet (ov_fieldAddr Tryd.underlying23 rfl rfl rfl Tryd.sizeOf3 rfl rfl)) ?_
            refine WL.quiet (Runs.free rfl) rfl rfl (OV.quiet (ov_load_box (i := 1) Tryd.isAgg3 rfl rfl rfl rfl)) ?_
            refine WL.quiet (Runs.free rfl) rfl rfl (OV.quiet (ov_lss rfl rfl rfl)) ?_
            refine WL.quiet (Runs.free rfl) rfl rfl (OV.quiet (ov_beql Tryd.underlying4 rfl rfl rfl)) ?_
            refine WL.quiet (Runs.free rfl) rfl rfl (OV.quiet (ov_move rfl rfl)) ?_
            obtain ⟨c1, e12, hm⟩ := bind_some hm
            refine WL.cut_bool 2 130 (x := c1) ?_ ?_
            · rcases Bool.eq_false_or_eq_true ((r10.1 == (-1)) == (decide (p_a.high < p_b.low))) with hc11 | hc11
              · skip
                replace hm := ite_t hc11 e12
                obtain ⟨r11, e13, hm⟩ := bind_some hm
                refine WL.quiet (Runs.yes rfl rfl rfl hc11) rfl rfl (oq_con (r := (.bool r11)) Tryd.call11 rfl rfl (fun w' s => ⟨_, (law03_awake_con   w' H2 s.hold hG r11 e13)⟩)) ?_
                refine WL.quiet (Runs.free rfl) rfl rfl (OV.quiet (ov_pick_true rfl (guard_eq rfl hc11) rfl)) ?_
                exact WL.nil ⟨Sub.cons' rfl (congrArg Value.bool (Option.some.inj hm)) (Sub.skip rfl (Sub.skip rfl (Sub.refl _))), fun _ s => s⟩
              · skip
                replace hm := ite_f hc11 e12
                refine WL.idle (Idle.no rfl rfl rfl hc11) rfl rfl ?_
                refine WL.quiet (Runs.free rfl) rfl rfl (OV.quiet (ov_pick_false rfl (guard_eq rfl hc11) rfl)) ?_
                exact WL.nil ⟨Sub.cons' rfl (congrArg Value.bool (Option.some.inj hm)) (Sub.skip rfl (Sub.skip rfl (Sub.refl _))), fun _ s => s⟩
            refine WL.quiet (Runs.free rfl) rfl rfl (OV.quiet (ov_assign rfl rfl)) ?_
            refine WL.nil ?_
            refine then_normal ?_
            refine WP.ret ?_
            refine then_ret ?_
            obtain rfl := Option.some.inj hm
            refine retQ_ret Tryd.results9 (Res.tmp rfl Res.nil) rfl (fun w' s => ⟨s.below, ?_⟩)
            exact rfl
          · replace hm := ite_f hc10 hm
            refine WP.skip ?_
            refine then_normal ?_
            refine WP.seq ?_
            refine WP.region ?_
            refine WL.quiet (Runs.free rfl) rfl rfl (OV.quiet (ov_load_whole (i := 0) Tryd.isAgg23 Tryd.sizeOf23 rfl rfl rfl rfl)) ?_
            refine WL.quiet (Runs.free rfl) rfl rfl (OV.quiet (ov_load_whole (i := 2) Tryd.isAgg23 Tryd.sizeOf23 rfl rfl rfl rfl)) ?_
            obtain ⟨r12, e14, hm⟩ := bind_some hm
            refine WL.quiet (Runs.free rfl) rfl rfl (oq_con (r := (.tuple #[(.bool r12.1), (.int .i64 r12.2)])) Tryd.call28 rfl rfl (fun w' s => ⟨_, (timespan_Within_con r9.1 p_a  w' H2 s.hold hG r12 e14)⟩)) ?_
            refine WL.quiet (Runs.free rfl) rfl rfl (OV.quiet (ov_move rfl rfl)) ?_
            refine WL.quiet (Runs.free rfl) rfl rfl (OV.quiet (ov_extract rfl rfl rfl)) ?_
            refine WL.quiet (Runs.free rfl) rfl rfl (OV.quiet (ov_extract rfl rfl rfl)) ?_
            refine WL.quiet (Runs.free rfl) rfl rfl (OV.quiet (ov_assign rfl rfl)) ?_
            refine WL.quiet (Runs.free rfl) rfl rfl (OV.quiet (ov_assign rfl rfl)) ?_
            refine WL.nil ?_
            refine then_normal ?_
            refine WP.seq ?_
            refine WP.region ?_
            refine WL.quiet (Runs.free rfl) rfl rfl (OV.quiet (ov_load_whole (i := 0) Tryd.isAgg23 Tryd.sizeOf23 rfl rfl rfl rfl)) ?_
            refine WL.quiet (Runs.free rfl) rfl rfl (OV.quiet (ov_load_whole (i := 1) Tryd.isAgg23 Tryd.sizeOf23 rfl rfl rfl rfl)) ?_
            obtain ⟨r13, e15, hm⟩ := bind_some hm
            refine WL.quiet (Runs.free rfl) rfl rfl (oq_con (r := (.tuple #[(.bool r13.1), (.int .i64 r13.2)])) Tryd.call28 rfl rfl (fun w' s => ⟨_, (timespan_Within_con r9.1 p_b  w' H2 s.hold hG r13 e15)⟩)) ?_
            refine WL.quiet (Runs.free rfl) rfl rfl (OV.quiet (ov_move rfl rfl)) ?_
            refine WL.quiet (Runs.free rfl) rfl rfl (OV.quiet (ov_extract rfl rfl rfl)) ?_
            refine WL.quiet (Runs.free rfl) rfl rfl (OV.quiet (ov_extract rfl rfl rfl)) ?_
            refine WL.quiet (Runs.free rfl) rfl rfl (OV.quiet (ov_assign rfl rfl)) ?_
            refine WL.quiet (Runs.free rfl) rfl rfl (OV.quiet (ov_assign rfl rfl)) ?_
            refine WL.nil ?_
            refine then_normal ?_
            refine WP.seq ?_
            refine WP.region ?_
            refine WL.quiet (Runs.free rfl) rfl rfl (OV.quiet (ov_move rfl rfl)) ?_
            refine WL.quiet (Runs.free rfl) rfl rfl (OV.quiet (ov_move rfl rfl)) ?_
            refine WL.quiet (Runs.free rfl) rfl rfl (OV.quiet (ov_add rfl rfl rfl)) ?_
            refine WL.quiet (Runs.free rfl) rfl rfl (OV.quiet (ov_eql rfl rfl rfl)) ?_
            refine WL.quiet (Runs.free rfl) rfl rfl (OV.quiet (ov_move rfl rfl)) ?_
            refine WL.cut_bool 2 149 (x := (((IntKind.wrap .i64 (r12.2 + r13.2)) == 0) && r12.1)) ?_ ?_
            · rcases Bool.eq_false_or_eq_true ((IntKind.wrap .i64 (r12.2 + r13.2)) == 0) with hc12 | hc12
              · skip
                refine WL.quiet (Runs.yes rfl rfl rfl hc12) rfl rfl (OV.quiet (ov_move rfl rfl)) ?_
                refine WL.quiet (Runs.free rfl) rfl rfl (OV.quiet (ov_pick_true rfl (guard_eq rfl hc12) rfl)) ?_
                exact WL.nil ⟨Sub.cons' rfl (congrArg Value.bool (by rw [hc12]; rfl)) (Sub.skip rfl (Sub.skip rfl (Sub.refl _))), fun _ s => s⟩
              · skip
                refine WL.idle (Idle.no rfl rfl rfl hc12) rfl rfl ?_
                refine WL.quiet (Runs.free rfl) rfl rfl (OV.quiet (ov_pick_false rfl (guard_eq rfl hc12) rfl)) ?_
                exact WL.nil ⟨Sub.cons' rfl (congrArg Value.bool (by rw [hc12]; rfl)) (Sub.skip rfl (Sub.skip rfl (Sub.refl _))), fun _ s => s⟩
            refine WL.quiet (Runs.free rfl) rfl rfl (OV.quiet (ov_move rfl rfl)) ?_
            refine WL.cut_bool 2 152 (x := ((((IntKind.wrap .i64 (r12.2 + r13.2)) == 0) && r12.1) && r13.1)) ?_ ?_
            · rcases Bool.eq_false_or_eq_true (((IntKind.wrap .i64 (r12.2 + r13.2)) == 0) && r12.1) with hc13 | hc13
              · skip
                refine WL.quiet (Runs.yes rfl rfl rfl hc13) rfl rfl (OV.quiet (ov_move rfl rfl)) ?_
                refine WL.quiet (Runs.free rfl) rfl rfl (OV.quiet (ov_pick_true rfl (guard_eq rfl hc13) rfl)) ?_
                exact WL.nil ⟨Sub.cons' rfl (congrArg Value.bool (by rw [hc13]; rfl)) (Sub.skip rfl (Sub.skip rfl (Sub.refl _))), fun _ s => s⟩
              · skip
                refine WL.idle (Idle.no rfl rfl rfl hc13) rfl rfl ?_
                refine WL.quiet (Runs.free rfl) rfl rfl (OV.quiet (ov_pick_false rfl (guard_eq rfl hc13) rfl)) ?_
                exact WL.nil ⟨Sub.cons' rfl (congrArg Value.bool (by rw [hc13]; rfl)) (Sub.skip rfl (Sub.skip rfl (Sub.refl _))), fun _ s => s⟩
            refine WL.quiet (Runs.free rfl) rfl rfl (OV.quiet (ov_move rfl rfl)) ?_
            obtain ⟨c2, e16, hm⟩ := bind_some hm
            refine WL.cut_bool 2 155 (x := c2) ?_ ?_
            · rcases Bool.eq_false_or_eq_true ((((IntKind.wrap .i64 (r12.2 + r13.2)) == 0) && r12.1) && r13.1) with hc14 | hc14
              · skip
                replace hm := ite_t hc14 e16
                obtain ⟨r14, e17, hm⟩ := bind_some hm
                refine WL.quiet (Runs.yes rfl rfl rfl hc14) rfl rfl (oq_con (r := (.bool r14)) Tryd.call11 rfl rfl (fun w' s => ⟨_, (law03_awake_con   w' H2 s.hold hG r14 e17)⟩)) ?_
                refine WL.quiet (Runs.free rfl) rfl rfl (OV.quiet (ov_pick_true rfl (guard_eq rfl hc14) rfl)) ?_
                exact WL.nil ⟨Sub.cons' rfl (congrArg Value.bool (Option.some.inj hm)) (Sub.skip rfl (Sub.skip rfl (Sub.refl _))), fun _ s => s⟩
              · skip
                replace hm := ite_f hc14 e16
                refine WL.idle (Idle.no rfl rfl rfl hc14) rfl rfl ?_
                refine WL.quiet (Runs.free rfl) rfl rfl (OV.quiet (ov_pick_false rfl (guard_eq rfl hc14) rfl)) ?_
                exact WL.nil ⟨Sub.cons' rfl (congrArg Value.bool (Option.some.inj hm)) (Sub.skip rfl (Sub.skip rfl (Sub.refl _))), fun _ s => s⟩
            refine WL.quiet (Runs.free rfl) rfl rfl (OV.quiet (ov_assign rfl rfl)) ?_
            refine WL.nil ?_
            refine then_normal ?_
            refine WP.ret ?_
            obtain rfl := Option.some.inj hm
            refine retQ_ret Tryd.results9 (Res.tmp rfl Res.nil) rfl (fun w' s => ⟨s.below, ?_⟩)
            exact rfl

end Go.Proofs.YtllhdlnnlckceaaDoor.W
