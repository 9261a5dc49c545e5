/- The walks. Written by our own program gen.py; Lean checks it. -/
import Derived.Test.YtllhdlnnlckceaaDoorPlain
import Derived.Test.YtllhdlnnlckceaaDoorEqs
import Derived.Test.YtllhdlnnlckceaaDoorProg
import Derived.Test.YtllhdlnnlckceaaDoorStdWalk0
import Derived.Test.YtllhdlnnlckceaaDoorTrim
set_option linter.unusedVariables false
set_option maxRecDepth 100000
namespace Go.Proofs.YtllhdlnnlckceaaDoor.W
open Go Go.RowKit
theorem timespan_timely_con (p_n : Int) (w : World) (H : Heap) (hH : Le H (hp w)) (hG : Glob H) (r : Bool) (hm : timespan_timely p_n = some r) :
    Con Tryd.prog 55 [(.int .i64 p_n)] w H (fun v _ => v = (.bool r)) := by
  unfold timespan_timely at hm
  refine con_of hH Tryd.func55 rfl 9 Tryd.ntmps55 rfl ?_
  refine WP.seq ?_
  refine WP.region ?_
  refine WL.quiet (Runs.free rfl) rfl rfl (OV.quiet (ov_assign rfl rfl)) ?_
  refine WL.nil ?_
  refine then_normal ?_
  refine WP.seq ?_
  refine WP.region ?_
  refine WL.quiet (Runs.free rfl) rfl rfl (OV.quiet (ov_move rfl rfl)) ?_
  refine WL.quiet (Runs.free rfl) rfl rfl (OV.quiet (ov_geq rfl rfl rfl)) ?_
  refine WL.quiet (Runs.free rfl) rfl rfl (OV.quiet (ov_move rfl rfl)) ?_
  refine WL.cut_bool 3 8 (x := ((decide (p_n ≥ 0)) && (decide (p_n ≤ 1000000)))) ?_ ?_
  · rcases Bool.eq_false_or_eq_true (decide (p_n ≥ 0)) with hc1 | hc1
    · skip
      refine WL.quiet (Runs.yes rfl rfl rfl hc1) rfl rfl (OV.quiet (ov_move rfl rfl)) ?_
      refine WL.quiet (Runs.yes rfl rfl rfl hc1) rfl rfl (OV.quiet (ov_leq rfl rfl rfl)) ?_
      refine WL.quiet (Runs.free rfl) rfl rfl (OV.quiet (ov_pick_true rfl (guard_eq rfl hc1) rfl)) ?_
      exact WL.nil ⟨Sub.cons' rfl (congrArg Value.bool (by rw [hc1]; rfl)) (Sub.skip rfl (Sub.skip rfl (Sub.skip rfl (Sub.refl _)))), fun _ s => s⟩
    · skip
      refine WL.idle (Idle.no rfl rfl rfl hc1) rfl rfl ?_
      refine WL.idle (Idle.no rfl rfl rfl hc1) rfl rfl ?_
      refine WL.quiet (Runs.free rfl) rfl rfl (OV.quiet (ov_pick_false rfl (guard_eq rfl hc1) rfl)) ?_
      exact WL.nil ⟨Sub.cons' rfl (congrArg Value.bool (by rw [hc1]; rfl)) (Sub.skip rfl (Sub.skip rfl (Sub.skip rfl (Sub.refl _)))), fun _ s => s⟩
  refine WL.quiet (Runs.free rfl) rfl rfl (OV.quiet (ov_assign rfl rfl)) ?_
  refine WL.nil ?_
  refine then_normal ?_
  refine WP.ret ?_
  obtain rfl := Option.some.inj hm
  refine retQ_ret Tryd.results55 (Res.tmp rfl Res.nil) rfl (fun w' s => ⟨s.below, ?_⟩)
  exact rfl

theorem timespan_Check_con (p_a : Span) (w : World) (H : Heap) (hH : Le H (hp w)) (hG : Glob H) (r : Int) (hm : timespan_Check p_a = some r) :
    Con Tryd.prog 34 [(.agg #[(.int .i64 p_a.low), (.int .i64 p_a.high)])] w H (fun v _ => v = (.int .i64 r)) := by
  unfold timespan_Check at hm
  refine con_of hH Tryd.func34 rfl 20 Tryd.ntmps34 rfl ?_
  refine WP.seq ?_
  refine WP.region ?_
  refine WL.step (Runs.free rfl) rfl rfl (os_box (cs := [(.int .i64 p_a.low), (.int .i64 p_a.high)]) rfl rfl rfl (fun b1 => ?_))
  refine WL.quiet (Runs.free rfl) rfl rfl (OV.quiet (ov_assign rfl rfl)) ?_
  refine WL.nil ?_
  refine then_normal ?_
  refine WP.seq ?_
  refine WP.block ?_
  refine WP.seq ?_
  refine WP.region ?_
  refine WL.quiet (Runs.free rfl) rfl rfl (OV.quiet (ov_fieldAddr Tryd.underlying23 rfl rfl rfl Tryd.sizeOf3 rfl rfl)) ?_
  refine WL.quiet (Runs.free rfl) rfl rfl (OV.quiet (ov_load_box (i := 0) Tryd.isAgg3 rfl rfl rfl rfl)) ?_
  obtain ⟨r1, e1, hm⟩ := bind_some hm
  refine WL.quiet (Runs.free rfl) rfl rfl (oq_con (r := (.bool r1)) Tryd.call55 rfl rfl (fun w' s => ⟨_, (timespan_timely_con p_a.low  w' H s.hold hG r1 e1)⟩)) ?_
  refine WL.quiet (Runs.free rfl) rfl rfl (OV.quiet (ov_not rfl rfl)) ?_
  refine WL.quiet (Runs.free rfl) rfl rfl (OV.quiet (ov_move rfl rfl)) ?_
  obtain ⟨c1, e2, hm⟩ := bind_some hm
  refine WL.cut_bool 5 13 (x := c1) ?_ ?_
  · rcases Bool.eq_false_or_eq_true (!r1) with hc1 | hc1
    · skip
      replace hm := ite_t hc1 e2
      refine WL.idle (Idle.no rfl rfl rfl hc1) rfl rfl ?_
      refine WL.idle (Idle.no rfl rfl rfl hc1) rfl rfl ?_
      refine WL.idle (Idle.no rfl rfl rfl hc1) rfl rfl ?_
      refine WL.idle (Idle.no rfl rfl rfl hc1) rfl rfl ?_
      refine WL.quiet (Runs.free rfl) rfl rfl (OV.quiet (ov_pick_true rfl (guard_eq rfl hc1) rfl)) ?_
      exact WL.nil ⟨Sub.cons' rfl (congrArg Value.bool (Option.some.inj hm)) (Sub.skip rfl (Sub.skip rfl (Sub.skip rfl (Sub.skip rfl (Sub.skip rfl (Sub.refl _)))))), fun _ s => s⟩
    · skip
      replace hm := ite_f hc1 e2
      refine WL.quiet (Runs.yes rfl rfl rfl hc1) rfl rfl (OV.quiet (ov_fieldAddr Tryd.underlying23 rfl rfl rfl Tryd.sizeOf3 rfl rfl)) ?_
      refine WL.quiet (Runs.yes rfl rfl rfl hc1) rfl rfl (OV.quiet (ov_load_box (i := 0) Tryd.isAgg3 rfl rfl rfl rfl)) ?_
      obtain ⟨r2, e3, hm⟩ := bind_some hm
      refine WL.quiet (Runs.yes rfl rfl rfl hc1) rfl rfl (oq_con (r := (.bool r2)) Tryd.call55 rfl rfl (fun w' s => ⟨_, (timespan_timely_con p_a.high  w' H s.hold hG r2 e3)⟩)) ?_
      refine WL.quiet (Runs.yes rfl rfl rfl hc1) rfl rfl (OV.quiet (ov_not rfl rfl)) ?_
      refine WL.quiet (Runs.free rfl) rfl rfl (OV.quiet (ov_pick_false rfl (guard_eq rfl hc1) rfl)) ?_
      exact WL.nil ⟨Sub.cons' rfl (congrArg Value.bool (Option.some.inj hm)) (Sub.skip rfl (Sub.skip rfl (Sub.skip rfl (Sub.skip rfl (Sub.skip rfl (Sub.refl _)))))), fun _ s => s⟩
  refine WL.quiet (Runs.free rfl) rfl rfl (OV.quiet (ov_assign rfl rfl)) ?_
  refine WL.nil ?_
  refine then_normal ?_
  refine WP.cond rfl (fun hc2 => ?_) (fun hc2 => ?_)
  · replace hm := ite_t hc2 hm
    refine WP.seq ?_
    refine WP.region ?_
    refine WL.quiet (Runs.free rfl) rfl rfl (OV.quiet (ov_assign rfl rfl)) ?_
    refine WL.nil ?_
    refine then_normal ?_
    refine WP.ret ?_
    refine block_ret ?_
    refine then_ret ?_
    obtain rfl := Option.some.inj hm
    refine retQ_ret Tryd.results34 (Res.tmp rfl Res.nil) rfl (fun w' s => ⟨s.below, ?_⟩)
    exact rfl
  · replace hm := ite_f hc2 hm
    refine WP.seq ?_
    refine WP.region ?_
    refine WL.quiet (Runs.free rfl) rfl rfl (OV.quiet (ov_fieldAddr Tryd.underlying23 rfl rfl rfl Tryd.sizeOf3 rfl rfl)) ?_
    refine WL.quiet (Runs.free rfl) rfl rfl (OV.quiet (ov_load_box (i := 0) Tryd.isAgg3 rfl rfl rfl rfl)) ?_
    refine WL.quiet (Runs.free rfl) rfl rfl (OV.quiet (ov_fieldAddr Tryd.underlying23 rfl rfl rfl Tryd.sizeOf3 rfl rfl)) ?_
    refine WL.quiet (Runs.free rfl) rfl rfl (OV.quiet (ov_load_box (i := 0) Tryd.isAgg3 rfl rfl rfl rfl)) ?_
    refine WL.quiet (Runs.free rfl) rfl rfl (OV.quiet (ov_gtr rfl rfl rfl)) ?_
    refine WL.quiet (Runs.free rfl) rfl rfl (OV.quiet (ov_assign rfl rfl)) ?_
    refine WL.nil ?_
    refine then_normal ?_
    refine WP.cond rfl (fun hc3 => ?_) (fun hc3 => ?_)
    · replace hm := ite_t hc3 hm
      refine WP.seq ?_
      refine WP.region ?_
      refine WL.quiet (Runs.free rfl) rfl rfl (OV.quiet (ov_assign rfl rfl)) ?_
      refine WL.nil ?_
      refine then_normal ?_
      refine WP.ret ?_
      refine block_ret ?_
      refine then_ret ?_
      obtain rfl := Option.some.inj hm
      refine retQ_ret Tryd.results34 (Res.tmp rfl Res.nil) rfl (fun w' s => ⟨s.below, ?_⟩)
      exact rfl
    · replace hm := ite_f hc3 hm
      refine WP.skip ?_
      refine block_normal ?_
      refine then_normal ?_
      refine WP.seq ?_
      refine WP.region ?_
      refine WL.quiet (Runs.free rfl) rfl rfl (OV.quiet (ov_assign rfl rfl)) ?_
      refine WL.nil ?_
      refine then_normal ?_
      refine WP.ret ?_
      obtain rfl := Option.some.inj hm
      refine retQ_ret Tryd.results34 (Res.tmp rfl Res.nil) rfl (fun w' s => ⟨s.below, ?_⟩)
      exact rfl

theorem timespan_Format_con (p_a : Span) (w : World) (H : Heap) (hH : Le H (hp w)) (hG : Glob H) (r : ((List UInt8) × Int)) (hm : timespan_Format p_a = some r) :
    Con Tryd.prog 12 [(.agg #[(.int .i64 p_a.low), (.int .i64 p_a.high)])] w H (fun v _ => v = (.tuple #[(mkS r.1), (.int .i64 r.2)])) := by
  unfold timespan_Format at hm
  refine con_of hH Tryd.func12 rfl 26 Tryd.ntmps12 rfl ?_
  refine WP.seq ?_
  refine WP.region ?_
  refine WL.step (Runs.free rfl) rfl rfl (os_box (cs := [(.int .i64 p_a.low), (.int .i64 p_a.high)]) rfl rfl rfl (fun b1 => ?_))
  refine WL.quiet (Runs.free rfl) rfl rfl (OV.quiet (ov_assign rfl rfl)) ?_
  refine WL.quiet (Runs.free rfl) rfl rfl (OV.quiet (ov_assign rfl rfl)) ?_
  refine WL.nil ?_
  refine then_normal ?_
  refine WP.seq ?_
  refine WP.seq ?_
  refine WP.region ?_
  refine WL.quiet (Runs.free rfl) rfl rfl (OV.quiet (ov_load_whole (i := 0) Tryd.isAgg23 Tryd.sizeOf23 rfl rfl rfl rfl)) ?_
  obtain ⟨r1, e1, hm⟩ := bind_some hm
  refine WL.quiet (Runs.free rfl) rfl rfl (oq_con (r := (.int .i64 r1)) Tryd.call34 rfl rfl (fun w' s => ⟨_, (timespan_Check_con p_a  w' H s.hold hG r1 e1)⟩)) ?_
  refine WL.quiet (Runs.free rfl) rfl rfl (OV.quiet (ov_assign rfl rfl)) ?_
  refine WL.nil ?_
  refine then_normal ?_
  refine WP.seq ?_
  refine WP.region ?_
  refine WL.quiet (Runs.free rfl) rfl rfl (OV.quiet (ov_move rfl rfl)) ?_
  refine WL.quiet (Runs.free rfl) rfl rfl (OV.quiet (ov_neq rfl rfl rfl)) ?_
  refine WL.nil ?_
  refine then_normal ?_
  refine WP.cond rfl (fun hc1 => ?_) (fun hc1 => ?_)
  · replace hm := ite_t hc1 hm
    refine WP.seq ?_
    refine WP.region ?_
    refine WL.quiet (Runs.free rfl) rfl rfl (OV.quiet (ov_move rfl rfl)) ?_
    refine WL.quiet (Runs.free rfl) rfl rfl (OV.quiet (ov_assign rfl rfl)) ?_
    refine WL.quiet (Runs.free rfl) rfl rfl (OV.quiet (ov_assign rfl rfl)) ?_
    refine WL.nil ?_
    refine then_normal ?_
    refine WP.ret ?_
    refine then_ret ?_
    obtain rfl := Option.some.inj hm
    refine retQ_ret Tryd.results12 (Res.tmp rfl (Res.tmp rfl Res.nil)) rfl (fun w' s => ⟨s.below, ?_⟩)
    exact rfl
  · replace hm := ite_f hc1 hm
    refine WP.skip ?_
    refine then_normal ?_
    refine WP.seq ?_
    refine WP.region ?_
    refine WL.quiet (Runs.free rfl) rfl rfl (OV.quiet (ov_fieldAddr Tryd.underlying23 rfl rfl rfl Tryd.sizeOf3 rfl rfl)) ?_
    refine WL.quiet (Runs.free rfl) rfl rfl (OV.quiet (ov_load_box (i := 0) Tryd.isAgg3 rfl rfl rfl rfl)) ?_
    obtain ⟨r2, e2, hm⟩ := bind_some hm
    refine WL.quiet (Runs.free rfl) rfl rfl (oq_con (r := (mkS r2)) Tryd.call41 rfl rfl (fun w' s => ⟨_, (itoa_con p_a.low  w' H s.hold hG r2 e2)⟩)) ?_
    refine WL.quiet (Runs.free rfl) rfl rfl (OV.quiet (ov_assign rfl rfl)) ?_
    refine WL.nil ?_
    refine then_normal ?_
    obtain ⟨k1, hk1, hm⟩ := joinK_some hm
    refine WP.seq_join (fun g' S' => ∃ (s3 : (List UInt8)), Sub [(5, (mkS s3))] g' ∧ (∀ w', S' w' → St w H [] H w') ∧ k1 s3 = some r) ?_ ?_
    · skip
      refine WP.seq ?_
      refine WP.region ?_
      refine WL.quiet (Runs.free rfl) rfl rfl (OV.quiet (ov_fieldAddr Tryd.underlying23 rfl rfl rfl Tryd.sizeOf3 rfl rfl)) ?_
      refine WL.quiet (Runs.free rfl) rfl rfl (OV.quiet (ov_load_box (i := 0) Tryd.isAgg3 rfl rfl rfl rfl)) ?_
      refine WL.quiet (Runs.free rfl) rfl rfl (OV.quiet (ov_fieldAddr Tryd.underlying23 rfl rfl rfl Tryd.sizeOf3 rfl rfl)) ?_
      refine WL.quiet (Runs.free rfl) rfl rfl (OV.quiet (ov_load_box (i := 0) Tryd.isAgg3 rfl rfl rfl rfl)) ?_
      refine WL.quiet (Runs.free rfl) rfl rfl (OV.quiet (ov_gtr rfl rfl rfl)) ?_
      refine WL.nil ?_
      refine then_normal ?_
      refine WP.cond rfl (fun hc2 => ?_) (fun hc2 => ?_)
      · replace hm := ite_t hc2 hm
        refine WP.region ?_
        refine WL.quiet (Runs.free rfl) rfl rfl (OV.quiet (ov_move rfl rfl)) ?_
        refine WL.quiet (Runs.free rfl) rfl rfl (OV.quiet (ov_fieldAddr Tryd.underlying23 rfl rfl rfl Tryd.sizeOf3 rfl rfl)) ?_
        refine WL.quiet (Runs.free rfl) rfl rfl (OV.quiet (ov_load_box (i := 0) Tryd.isAgg3 rfl rfl rfl rfl)) ?_
        obtain ⟨r3, e3, hm⟩ := bind_some hm
        refine WL.quiet (Runs.free rfl) rfl rfl (oq_con (r := (mkS r3)) Tryd.call41 rfl rfl (fun w' s => ⟨_, (itoa_con p_a.high  w' H s.hold hG r3 e3)⟩)) ?_
        obtain ⟨s1, e4, hm⟩ := bind_some hm
        refine WL.quiet (Runs.free rfl) rfl rfl (OV.quiet (ov_sadd' e4 rfl rfl rfl)) ?_
        obtain ⟨s2, e5, hm⟩ := bind_some hm
        refine WL.quiet (Runs.free rfl) rfl rfl (OV.quiet (ov_sadd' e5 rfl rfl rfl)) ?_
        refine WL.quiet (Runs.free rfl) rfl rfl (OV.quiet (ov_assign rfl rfl)) ?_
        refine WL.nil ?_
        refine then_normal ?_
        exact ⟨s2, (Sub.cons rfl (Sub.nil _)), fun w' s => (s.select [] (by decide) rfl), hm⟩
      · replace hm := ite_f hc2 hm
        refine WP.skip ?_
        refine then_normal ?_
        exact ⟨r2, (Sub.cons rfl (Sub.nil _)), fun w' s => (s.select [] (by decide) rfl), hm⟩
    · rintro g' S' ⟨s3, hsub1, hS1, hm⟩
      refine WP.sub hsub1 (WP.weaken hS1 ?_)
      replace hm := (congrFun hk1 s3).symm.trans hm
      refine WP.seq ?_
      refine WP.region ?_
      refine WL.quiet (Runs.free rfl) rfl rfl (OV.quiet (ov_move rfl rfl)) ?_
      refine WL.quiet (Runs.free rfl) rfl rfl (OV.quiet (ov_assign rfl rfl)) ?_
      refine WL.quiet (Runs.free rfl) rfl rfl (OV.quiet (ov_assign rfl rfl)) ?_
      refine WL.nil ?_
      refine then_normal ?_
      refine WP.ret ?_
      obtain rfl := Option.some.inj hm
      refine retQ_ret Tryd.results12 (Res.tmp rfl (Res.tmp rfl Res.nil)) rfl (fun w' s => ⟨s.below, ?_⟩)
      exact rfl

theorem ref03_Time_con (p_n : Int) (w : World) (H : Heap) (hH : Le H (hp w)) (hG : Glob H) (r : Bool) (hm : ref03_Time p_n = some r) :
    Con Tryd.prog 51 [(.int .i64 p_n)] w H (fun v _ => v = (.bool r)) := by
  unfold ref03_Time at hm
  refine con_of hH Tryd.func51 rfl 9 Tryd.ntmps51 rfl ?_
  refine WP.seq ?_
  refine WP.region ?_
  refine WL.quiet (Runs.free rfl) rfl rfl (OV.quiet (ov_assign rfl rfl)) ?_
  refine WL.nil ?_
  refine then_normal ?_
  refine WP.seq ?_
  refine WP.region ?_
  refine WL.quiet (Runs.free rfl) rfl rfl (OV.quiet (ov_move rfl rfl)) ?_
  refine WL.quiet (Runs.free rfl) rfl rfl (OV.quiet (ov_geq rfl rfl rfl)) ?_
  refine WL.quiet (Runs.free rfl) rfl rfl (OV.quiet (ov_move rfl rfl)) ?_
  refine WL.cut_bool 3 8 (x := ((decide (p_n ≥ 0)) && (decide (p_n ≤ 1000000)))) ?_ ?_
  · rcases Bool.eq_false_or_eq_true (decide (p_n ≥ 0)) with hc1 | hc1
    · skip
      refine WL.quiet (Runs.yes rfl rfl rfl hc1) rfl rfl (OV.quiet (ov_move rfl rfl)) ?_
      refine WL.quiet (Runs.yes rfl rfl rfl hc1) rfl rfl (OV.quiet (ov_leq rfl rfl rfl)) ?_
      refine WL.quiet (Runs.free rfl) rfl rfl (OV.quiet (ov_pick_true rfl (guard_eq rfl hc1) rfl)) ?_
      exact WL.nil ⟨Sub.cons' rfl (congrArg Value.bool (by rw [hc1]; rfl)) (Sub.skip rfl (Sub.skip rfl (Sub.skip rfl (Sub.refl _)))), fun _ s => s⟩
    · skip
      refine WL.idle (Idle.no rfl rfl rfl hc1) rfl rfl ?_
      refine WL.idle (Idle.no rfl rfl rfl hc1) rfl rfl ?_
      refine WL.quiet (Runs.free rfl) rfl rfl (OV.quiet (ov_pick_false rfl (guard_eq rfl hc1) rfl)) ?_
      exact WL.nil ⟨Sub.cons' rfl (congrArg Value.bool (by rw [hc1]; rfl)) (Sub.skip rfl (Sub.skip rfl (Sub.skip rfl (Sub.refl _)))), fun _ s => s⟩
  refine WL.quiet (Runs.free rfl) rfl rfl (OV.quiet (ov_assign rfl rfl)) ?_
  refine WL.nil ?_
  refine then_normal ?_
  refine WP.ret ?_
  obtain rfl := Option.some.inj hm
  refine retQ_ret Tryd.results51 (Res.tmp rfl Res.nil) rfl (fun w' s => ⟨s.below, ?_⟩)
  exact rfl

theorem ref03_Check_con (p_a : Span) (w : World) (H : Heap) (hH : Le H (hp w)) (hG : Glob H) (r : Int) (hm : ref03_Check p_a = some r) :
    Con Tryd.prog 21 [(.agg #[(.int .i64 p_a.low), (.int .i64 p_a.high)])] w H (fun v _ => v = (.int .i64 r)) := by
  unfold ref03_Check at hm
  refine con_of hH Tryd.func21 rfl 18 Tryd.ntmps21 rfl ?_
  refine WP.seq ?_
  refine WP.region ?_
  refine WL.step (Runs.free rfl) rfl rfl (os_box (cs := [(.int .i64 p_a.low), (.int .i64 p_a.high)]) rfl rfl rfl (fun b1 => ?_))
  refine WL.quiet (Runs.free rfl) rfl rfl (OV.quiet (ov_assign rfl rfl)) ?_
  refine WL.nil ?_
  refine then_normal ?_
  refine WP.seq ?_
  refine WP.seq ?_
  refine WP.region ?_
  refine WL.quiet (Runs.free rfl) rfl rfl (OV.quiet (ov_fieldAddr Tryd.underlying23 rfl rfl rfl Tryd.sizeOf3 rfl rfl)) ?_
  refine WL.quiet (Runs.free rfl) rfl rfl (OV.quiet (ov_load_box (i := 0) Tryd.isAgg3 rfl rfl rfl rfl)) ?_
  obtain ⟨r1, e1, hm⟩ := bind_some hm
  refine WL.quiet (Runs.free rfl) rfl rfl (oq_con (r := (.bool r1)) Tryd.call51 rfl rfl (fun w' s => ⟨_, (ref03_Time_con p_a.low  w' H s.hold hG r1 e1)⟩)) ?_
  refine WL.quiet (Runs.free rfl) rfl rfl (OV.quiet (ov_not rfl rfl)) ?_
  refine WL.quiet (Runs.free rfl) rfl rfl (OV.quiet (ov_move rfl rfl)) ?_
  obtain ⟨c1, e2, hm⟩ := bind_some hm
  refine WL.cut_bool 5 12 (x := c1) ?_ ?_
  · rcases Bool.eq_false_or_eq_true (!r1) with hc1 | hc1
    · skip
      replace hm := ite_t hc1 e2
      refine WL.idle (Idle.no rfl rfl rfl hc1) rfl rfl ?_
      refine WL.idle (Idle.no rfl rfl rfl hc1) rfl rfl ?_
      refine WL.idle (Idle.no rfl rfl rfl hc1) rfl rfl ?_
      refine WL.idle (Idle.no rfl rfl rfl hc1) rfl rfl ?_
      refine WL.quiet (Runs.free rfl) rfl rfl (OV.quiet (ov_pick_true rfl (guard_eq rfl hc1) rfl)) ?_
      exact WL.nil ⟨Sub.cons' rfl (congrArg Value.bool (Option.some.inj hm)) (Sub.skip rfl (Sub.skip rfl (Sub.skip rfl (Sub.skip rfl (Sub.skip rfl (Sub.refl _)))))), fun _ s => s⟩
    · skip
      replace hm := ite_f hc1 e2
      refine WL.quiet (Runs.yes rfl rfl rfl hc1) rfl rfl (OV.quiet (ov_fieldAddr Tryd.underlying23 rfl rfl rfl Tryd.sizeOf3 rfl rfl)) ?_
      refine WL.quiet (Runs.yes rfl rfl rfl hc1) rfl rfl (OV.quiet (ov_load_box (i := 0) Tryd.isAgg3 rfl rfl rfl rfl)) ?_
      obtain ⟨r2, e3, hm⟩ := bind_some hm
      refine WL.quiet (Runs.yes rfl rfl rfl hc1) rfl rfl (oq_con (r := (.bool r2)) Tryd.call51 rfl rfl (fun w' s => ⟨_, (ref03_Time_con p_a.high  w' H s.hold hG r2 e3)⟩)) ?_
      refine WL.quiet (Runs.yes rfl rfl rfl hc1) rfl rfl (OV.quiet (ov_not rfl rfl)) ?_
      refine WL.quiet (Runs.free rfl) rfl rfl (OV.quiet (ov_pick_false rfl (guard_eq rfl hc1) rfl)) ?_
      exact WL.nil ⟨Sub.cons' rfl (congrArg Value.bool (Option.some.inj hm)) (Sub.skip rfl (Sub.skip rfl (Sub.skip rfl (Sub.skip rfl (Sub.skip rfl (Sub.refl _)))))), fun _ s => s⟩
  refine WL.nil ?_
  refine then_normal ?_
  refine WP.cond rfl (fun hc2 => ?_) (fun hc2 => ?_)
  · replace hm := ite_t hc2 hm
    refine WP.seq ?_
    refine WP.region ?_
    refine WL.quiet (Runs.free rfl) rfl rfl (OV.quiet (ov_assign rfl rfl)) ?_
    refine WL.nil ?_
    refine then_normal ?_
    refine WP.ret ?_
    refine then_ret ?_
    obtain rfl := Option.some.inj hm
    refine retQ_ret Tryd.results21 (Res.tmp rfl Res.nil) rfl (fun w' s => ⟨s.below, ?_⟩)
    exact rfl
  · replace hm := ite_f hc2 hm
    refine WP.skip ?_
    refine then_normal ?_
    refine WP.seq ?_
    refine WP.seq ?_
    refine WP.region ?_
    refine WL.quiet (Runs.free rfl) rfl rfl (OV.quiet (ov_fieldAddr Tryd.underlying23 rfl rfl rfl Tryd.sizeOf3 rfl rfl)) ?_
    refine WL.quiet (Runs.free rfl) rfl rfl (OV.quiet (ov_load_box (i := 0) Tryd.isAgg3 rfl rfl rfl rfl)) ?_
    refine WL.quiet (Runs.free rfl) rfl rfl (OV.quiet (ov_fieldAddr Tryd.underlying23 rfl rfl rfl Tryd.sizeOf3 rfl rfl)) ?_
    refine WL.quiet (Runs.free rfl) rfl rfl (OV.quiet (ov_load_box (i := 0) Tryd.isAgg3 rfl rfl rfl rfl)) ?_
    refine WL.quiet (Runs.free rfl) rfl rfl (OV.quiet (ov_gtr rfl rfl rfl)) ?_
    refine WL.nil ?_
    refine then_normal ?_
    refine WP.cond rfl (fun hc3 => ?_) (fun hc3 => ?_)
    · replace hm := ite_t hc3 hm
      refine WP.seq ?_
      refine WP.region ?_
      refine WL.quiet (Runs.free rfl) rfl rfl (OV.quiet (ov_assign rfl rfl)) ?_
      refine WL.nil ?_
      refine then_normal ?_
      refine WP.ret ?_
      refine then_ret ?_
      obtain rfl := Option.some.inj hm
      refine retQ_ret Tryd.results21 (Res.tmp rfl Res.nil) rfl (fun w' s => ⟨s.below, ?_⟩)
      exact rfl
    · replace hm := ite_f hc3 hm
      refine WP.skip ?_
      refine then_normal ?_
      refine WP.seq ?_
      refine WP.region ?_
      refine WL.quiet (Runs.free rfl) rfl rfl (OV.quiet (ov_assign rfl rfl)) ?_
      refine WL.nil ?_
      refine then_normal ?_
      refine WP.ret ?_
      obtain rfl := Option.some.inj hm
      refine retQ_ret Tryd.results21 (Res.tmp rfl Res.nil) rfl (fun w' s => ⟨s.below, ?_⟩)
      exact rfl

theorem ref03_Digits_con (p_n : Int) (w : World) (H : Heap) (hH : Le H (hp w)) (hG : Glob H) (r : (List UInt8)) (hm : ref03_Digits p_n = some r) :
    Con Tryd.prog 42 [(.int .i64 p_n)] w H (fun v _ => v = (mkS r)) := by
  unfold ref03_Digits at hm
  refine con_of hH Tryd.func42 rfl 23 Tryd.ntmps42 rfl ?_
  refine WP.seq ?_
  refine WP.region ?_
  refine WL.quiet (Runs.free rfl) rfl rfl (OV.quiet (ov_assign rfl rfl)) ?_
  refine WL.nil ?_
  refine then_normal ?_
  refine WP.seq ?_
  refine WP.region ?_
  refine WL.quiet (Runs.free rfl) rfl rfl (OV.quiet (ov_assign rfl rfl)) ?_
  refine WL.nil ?_
  refine then_normal ?_
  obtain ⟨k1, hk1, hm⟩ := joinK_some hm
  refine WP.seq_join (fun g' S' => ∃ (s4 : (List UInt8)), Sub [(3, (mkS s4))] g' ∧ (∀ w', S' w' → St w H [] H w') ∧ k1 s4 = some r) ?_ ?_
  · skip
    refine WP.seq ?_
    refine WP.region ?_
    refine WL.quiet (Runs.free rfl) rfl rfl (OV.quiet (ov_move rfl rfl)) ?_
    refine WL.quiet (Runs.free rfl) rfl rfl (OV.quiet (ov_assign rfl rfl)) ?_
    refine WL.nil ?_
    refine then_normal ?_
    refine WP.block ?_
    refine WP.loop (fun m1 g' S' => ∃ (s1 : (List UInt8)) (i1 : Int), Sub [(3, (mkS s1)), (4, (.int .i64 i1))] g' ∧ (∀ w', S' w' → St w H [] H w') ∧ ref03_Digits_loop1 k1 m1 s1 i1 = some r) ((p_n.toNat + 2)) ⟨[], p_n, (Sub.cons rfl (Sub.cons rfl (Sub.nil _))), fun w' s => s, hm⟩ ?_ ?_
    · rintro g' S' ⟨_, _, _, _, hm⟩
      exact none_some hm
    · rintro m1 g' S' ⟨s1, i1, hsub1, hS1, hm⟩
      refine WP.sub hsub1 (WP.weaken hS1 ?_)
      rw [ref03_Digits_loop1] at hm
      refine WP.seq ?_
      refine WP.seq ?_
      refine WP.region ?_
      refine WL.quiet (Runs.free rfl) rfl rfl (OV.quiet (ov_move rfl rfl)) ?_
      refine WL.quiet (Runs.free rfl) rfl rfl (OV.quiet (ov_gtr rfl rfl rfl)) ?_
      refine WL.quiet (Runs.free rfl) rfl rfl (OV.quiet (ov_move rfl rfl)) ?_
      refine WL.cut_bool 3 11 (x := ((decide (i1 > 0)) || (s1 == []))) ?_ ?_
      · rcases Bool.eq_false_or_eq_true (decide (i1 > 0)) with hc1 | hc1
        · skip
          refine WL.idle (Idle.no rfl rfl rfl hc1) rfl rfl ?_
          refine WL.idle (Idle.no rfl rfl rfl hc1) rfl rfl ?_
          refine WL.quiet (Runs.free rfl) rfl rfl (OV.quiet (ov_pick_true rfl (guard_eq rfl hc1) rfl)) ?_
          exact WL.nil ⟨Sub.cons' rfl (congrArg Value.bool (by rw [hc1]; rfl)) (Sub.skip rfl (Sub.skip rfl (Sub.skip rfl (Sub.refl _)))), fun _ s => s⟩
        · skip
          refine WL.quiet (Runs.yes rfl rfl rfl hc1) rfl rfl (OV.quiet (ov_move rfl rfl)) ?_
          refine WL.quiet (Runs.yes rfl rfl rfl hc1) rfl rfl (OV.quiet (ov_seql rfl rfl rfl)) ?_
          refine WL.quiet (Runs.free rfl) rfl rfl (OV.quiet (ov_pick_false rfl (guard_eq rfl hc1) rfl)) ?_
          exact WL.nil ⟨Sub.cons' rfl (congrArg Value.bool (by rw [hc1]; rfl)) (Sub.skip rfl (Sub.skip rfl (Sub.skip rfl (Sub.refl _)))), fun _ s => s⟩
      refine WL.nil ?_
      refine then_normal ?_
      refine WP.cond rfl (fun hc2 => ?_) (fun hc2 => ?_)
      · replace hm := ite_t hc2 hm
        refine WP.skip ?_
        refine then_normal ?_
        refine WP.seq ?_
        refine WP.block ?_
        refine WP.region ?_
        refine WL.quiet (Runs.free rfl) rfl rfl (OV.quiet (ov_move rfl rfl)) ?_
        refine WL.quiet (Runs.free rfl) rfl rfl (OV.quiet (ov_rem rfl rfl rfl (by decide))) ?_
        refine WL.quiet (Runs.free rfl) rfl rfl (OV.quiet (ov_move rfl rfl)) ?_
        refine WL.quiet (Runs.free rfl) rfl rfl (OV.quiet (ov_rem rfl rfl rfl (by decide))) ?_
        refine WL.quiet (Runs.free rfl) rfl rfl (OV.quiet (ov_add rfl rfl rfl)) ?_
        obtain ⟨s2, e1, hm⟩ := bind_some hm
        refine WL.quiet (Runs.free rfl) rfl rfl (OV.quiet (ov_slice_string Tryd.underlying9 rfl rfl rfl rfl e1)) ?_
        refine WL.quiet (Runs.free rfl) rfl rfl (OV.quiet (ov_move rfl rfl)) ?_
        obtain ⟨s3, e2, hm⟩ := bind_some hm
        refine WL.quiet (Runs.free rfl) rfl rfl (OV.quiet (ov_sadd' e2 rfl rfl rfl)) ?_
        refine WL.quiet (Runs.free rfl) rfl rfl (OV.quiet (ov_assign rfl rfl)) ?_
        refine WL.nil ?_
        refine block_normal ?_
        refine then_normal ?_
        refine WP.region ?_
        refine WL.quiet (Runs.free rfl) rfl rfl (OV.quiet (ov_move rfl rfl)) ?_
        refine WL.quiet (Runs.free rfl) rfl rfl (OV.quiet (ov_quo rfl rfl rfl (by decide))) ?_
        refine WL.quiet (Runs.free rfl) rfl rfl (OV.quiet (ov_assign rfl rfl)) ?_
        refine WL.nil ?_
        refine then_normal ?_
        exact ⟨s3, (IntKind.wrap .i64 (Int.tdiv i1 10)), (Sub.cons rfl (Sub.cons rfl (Sub.nil _))), fun w' s => s, hm⟩
      · replace hm := ite_f hc2 hm
        refine WP.exit ?_
        refine then_exit ?_
        refine then_exit ?_
        refine block_here ?_
        refine then_normal ?_
        exact ⟨s1, (Sub.cons rfl (Sub.nil _)), fun w' s => s, hm⟩
  · rintro g' S' ⟨s4, hsub2, hS2, hm⟩
    refine WP.sub hsub2 (WP.weaken hS2 ?_)
    replace hm := (congrFun hk1 s4).symm.trans hm
    refine WP.seq ?_
    refine WP.region ?_
    refine WL.quiet (Runs.free rfl) rfl rfl (OV.quiet (ov_move rfl rfl)) ?_
    refine WL.quiet (Runs.free rfl) rfl rfl (OV.quiet (ov_assign rfl rfl)) ?_
    refine WL.nil ?_
    refine then_normal ?_
    refine WP.ret ?_
    obtain rfl := Option.some.inj hm
    refine retQ_ret Tryd.results42 (Res.tmp rfl Res.nil) rfl (fun w' s => ⟨s.below, ?_⟩)
    exact rfl

theorem ref03_Format_con (p_a : Span) (w : World) (H : Heap) (hH : Le H (hp w)) (hG : Glob H) (r : ((List UInt8) × Int)) (hm : ref03_Format p_a = some r) :
    Con Tryd.prog 13 [(.agg #[(.int .i64 p_a.low), (.int .i64 p_a.high)])] w H (fun v _ => v = (.tuple #[(mkS r.1), (.int .i64 r.2)])) := by
  unfold ref03_Format at hm
  refine con_of hH Tryd.func13 rfl 26 Tryd.ntmps13 rfl ?_
  refine WP.seq ?_
  refine WP.region ?_
  refine WL.step (Runs.free rfl) rfl rfl (os_box (cs := [(.int .i64 p_a.low), (.int .i64 p_a.high)]) rfl rfl rfl (fun b1 => ?_))
  refine WL.quiet (Runs.free rfl) rfl rfl (OV.quiet (ov_assign rfl rfl)) ?_
  refine WL.quiet (Runs.free rfl) rfl rfl (OV.quiet (ov_assign rfl rfl)) ?_
  refine WL.nil ?_
  refine then_normal ?_
  refine WP.seq ?_
  refine WP.seq ?_
  refine WP.region ?_
  refine WL.quiet (Runs.free rfl) rfl rfl (OV.quiet (ov_load_whole (i := 0) Tryd.isAgg23 Tryd.sizeOf23 rfl rfl rfl rfl)) ?_
  obtain ⟨r1, e1, hm⟩ := bind_some hm
  refine WL.quiet (Runs.free rfl) rfl rfl (oq_con (r := (.int .i64 r1)) Tryd.call21 rfl rfl (fun w' s => ⟨_, (ref03_Check_con p_a  w' H s.hold hG r1 e1)⟩)) ?_
  refine WL.quiet (Runs.free rfl) rfl rfl (OV.quiet (ov_assign rfl rfl)) ?_
  refine WL.nil ?_
  refine then_normal ?_
  refine WP.seq ?_
  refine WP.region ?_
  refine WL.quiet (Runs.free rfl) rfl rfl (OV.quiet (ov_move rfl rfl)) ?_
  refine WL.quiet (Runs.free rfl) rfl rfl (OV.quiet (ov_neq rfl rfl rfl)) ?_
  refine WL.nil ?_
  refine then_normal ?_
  refine WP.cond rfl (fun hc1 => ?_) (fun hc1 => ?_)
  · replace hm := ite_t hc1 hm
    refine WP.seq ?_
    refine WP.region ?_
    refine WL.quiet (Runs.free rfl) rfl rfl (OV.quiet (ov_move rfl rfl)) ?_
    refine WL.quiet (Runs.free rfl) rfl rfl (OV.quiet (ov_assign rfl rfl)) ?_
    refine WL.quiet (Runs.free rfl) rfl rfl (OV.quiet (ov_assign rfl rfl)) ?_
    refine WL.nil ?_
    refine then_normal ?_
    refine WP.ret ?_
    refine then_ret ?_
    obtain rfl := Option.some.inj hm
    refine retQ_ret Tryd.results13 (Res.tmp rfl (Res.tmp rfl Res.nil)) rfl (fun w' s => ⟨s.below, ?_⟩)
    exact rfl
  · replace hm := ite_f hc1 hm
    refine WP.skip ?_
    refine then_normal ?_
    refine WP.seq ?_
    refine WP.seq ?_
    refine WP.region ?_
    refine WL.quiet (Runs.free rfl) rfl rfl (OV.quiet (ov_fieldAddr Tryd.underlying23 rfl rfl rfl Tryd.sizeOf3 rfl rfl)) ?_
    refine WL.quiet (Runs.free rfl) rfl rfl (OV.quiet (ov_load_box (i := 0) Tryd.isAgg3 rfl rfl rfl rfl)) ?_
    refine WL.quiet (Runs.free rfl) rfl rfl (OV.quiet (ov_fieldAddr Tryd.underlying23 rfl rfl rfl Tryd.sizeOf3 rfl rfl)) ?_
    refine WL.quiet (Runs.free rfl) rfl rfl (OV.quiet (ov_load_box (i := 0) Tryd.isAgg3 rfl rfl rfl rfl)) ?_
    refine WL.quiet (Runs.free rfl) rfl rfl (OV.quiet (ov_eql rfl rfl rfl)) ?_
    refine WL.nil ?_
    refine then_normal ?_
    refine WP.cond rfl (fun hc2 => ?_) (fun hc2 => ?_)
    · replace hm := ite_t hc2 hm
      refine WP.seq ?_
      refine WP.region ?_
      refine WL.quiet (Runs.free rfl) rfl rfl (OV.quiet (ov_fieldAddr Tryd.underlying23 rfl rfl rfl Tryd.sizeOf3 rfl rfl)) ?_
      refine WL.quiet (Runs.free rfl) rfl rfl (OV.quiet (ov_load_box (i := 0) Tryd.isAgg3 rfl rfl rfl rfl)) ?_
      obtain ⟨r2, e2, hm⟩ := bind_some hm
      refine WL.quiet (Runs.free rfl) rfl rfl (oq_con (r := (mkS r2)) Tryd.call42 rfl rfl (fun w' s => ⟨_, (ref03_Digits_con p_a.low  w' H s.hold hG r2 e2)⟩)) ?_
      refine WL.quiet (Runs.free rfl) rfl rfl (OV.quiet (ov_assign rfl rfl)) ?_
      refine WL.quiet (Runs.free rfl) rfl rfl (OV.quiet (ov_assign rfl rfl)) ?_
      refine WL.nil ?_
      refine then_normal ?_
      refine WP.ret ?_
      refine then_ret ?_
      obtain rfl := Option.some.inj hm
      refine retQ_ret Tryd.results13 (Res.tmp rfl (Res.tmp rfl Res.nil)) rfl (fun w' s => ⟨s.below, ?_⟩)
      exact rfl
    · replace hm := ite_f hc2 hm
      refine WP.skip ?_
      refine then_normal ?_
      refine WP.seq ?_
      refine WP.region_draws (by kernel_rfl) (by kernel_rfl) (fun _ s => s.drew) ?_
      refine QL.quiet (Runs.free rfl) rfl rfl (OV.quiet (ov_fieldAddr Tryd.underlying23 rfl rfl rfl Tryd.sizeOf3 rfl rfl)) ?_
      refine QL.quiet (Runs.free rfl) rfl rfl (OV.quiet (ov_load_box (i := 0) Tryd.isAgg3 rfl rfl rfl rfl)) ?_
      obtain ⟨r3, e3, hm⟩ := bind_some hm
      refine QL.quiet (Runs.free rfl) rfl rfl (oq_con (r := (mkS r3)) Tryd.call42 rfl rfl (fun w' s => ⟨_, (ref03_Digits_con p_a.low  w' H s.hold hG r3 e3)⟩)) ?_
      obtain ⟨s1, e4, hm⟩ := bind_some hm
      refine QL.quiet (Runs.free rfl) rfl rfl (OV.quiet (ov_sadd' e4 rfl rfl rfl)) ?_
      refine QL.quiet (Runs.free rfl) rfl rfl (OV.quiet (ov_fieldAddr Tryd.underlying23 rfl rfl rfl Tryd.sizeOf3 rfl rfl)) ?_
      refine QL.quiet (Runs.free rfl) rfl rfl (OV.quiet (ov_load_box (i := 0) Tryd.isAgg3 rfl rfl rfl rfl)) ?_
      obtain ⟨r4, e5, hm⟩ := bind_some hm
      refine QL.quiet (Runs.free rfl) rfl rfl (oq_con (r := (mkS r4)) Tryd.call42 rfl rfl (fun w' s => ⟨_, (ref03_Digits_con p_a.high  w' H s.hold hG r4 e5)⟩)) ?_
      obtain ⟨s2, e6, hm⟩ := bind_some hm
      refine QL.quiet (Runs.free rfl) rfl rfl (OV.quiet (ov_sadd' e6 rfl rfl rfl)) ?_
      refine QL.quiet (Runs.free rfl) rfl rfl (OV.quiet (ov_assign rfl rfl)) ?_
      refine QL.quiet (Runs.free rfl) rfl rfl (OV.quiet (ov_assign rfl rfl)) ?_
      refine QL.nil ?_
      refine then_normal ?_
      refine WP.ret ?_
      obtain rfl := Option.some.inj hm
      refine retQ_ret Tryd.results13 (Res.tmp rfl (Res.tmp rfl Res.nil)) rfl (fun w' s => ⟨s.below, ?_⟩)
      exact rfl

theorem timespan_Of_con (p_low : Int) (p_high : Int) (w : World) (H : Heap) (hH : Le H (hp w)) (hG : Glob H) (r : (Span × Int)) (hm : timespan_Of p_low p_high = some r) :
    Con Tryd.prog 32 [(.int .i64 p_low), (.int .i64 p_high)] w H (fun v _ => v = (.tuple #[(.agg #[(.int .i64 r.1.low), (.int .i64 r.1.high)]), (.int .i64 r.2)])) := by
  unfold timespan_Of at hm
  refine con_of hH Tryd.func32 rfl 18 Tryd.ntmps32 rfl ?_
  refine WP.seq ?_
  refine WP.region ?_
  refine WL.step (Runs.free rfl) rfl rfl (os_alloc (cs := [(.int .i64 0), (.int .i64 0)]) Tryd.zeroValue23 rfl rfl (fun b1 => ?_))
  refine WL.quiet (Runs.free rfl) rfl rfl (OV.quiet (ov_assign rfl rfl)) ?_
  refine WL.nil ?_
  refine then_normal ?_
  refine WP.seq ?_
  refine WP.region ?_
  refine WL.quiet (Runs.free rfl) rfl rfl (OV.quiet (ov_move rfl rfl)) ?_
  refine WL.quiet (Runs.free rfl) rfl rfl (OV.quiet (ov_move rfl rfl)) ?_
  refine WL.quiet (Runs.free rfl) rfl rfl (OV.quiet (ov_build (r := (.agg #[(.int .i64 p_low), (.int .i64 p_high)])) rfl rfl (fun _ => by kernel_rfl))) ?_
  refine WL.step (Runs.free rfl) rfl rfl (os_alloc (cs := [(.int .i64 0), (.int .i64 0)]) Tryd.zeroValue23 rfl rfl (fun b2 => ?_))
  refine WL.step0 (Runs.free rfl) rfl (os_store (i := 0) (vs := [(.int .i64 p_low), (.int .i64 p_high)]) (cs' := [(.int .i64 p_low), (.int .i64 p_high)]) Tryd.sizeOf23 rfl rfl rfl rfl rfl rfl rfl rfl rfl ?_)
  refine WL.nil ?_
  refine then_normal ?_
  refine WP.seq ?_
  refine WP.seq ?_
  refine WP.region ?_
  refine WL.quiet (Runs.free rfl) rfl rfl (OV.quiet (ov_load_whole (i := 0) Tryd.isAgg23 Tryd.sizeOf23 rfl rfl rfl rfl)) ?_
  obtain ⟨r1, e1, hm⟩ := bind_some hm
  refine WL.quiet (Runs.free rfl) rfl rfl (oq_con (r := (.int .i64 r1)) Tryd.call34 rfl rfl (fun w' s => ⟨_, (timespan_Check_con (Span.mk p_low p_high)  w' H s.hold hG r1 e1)⟩)) ?_
  refine WL.quiet (Runs.free rfl) rfl rfl (OV.quiet (ov_assign rfl rfl)) ?_
  refine WL.nil ?_
  refine then_normal ?_
  refine WP.seq ?_
  refine WP.region ?_
  refine WL.quiet (Runs.free rfl) rfl rfl (OV.quiet (ov_move rfl rfl)) ?_
  refine WL.quiet (Runs.free rfl) rfl rfl (OV.quiet (ov_neq rfl rfl rfl)) ?_
  refine WL.nil ?_
  refine then_normal ?_
  refine WP.cond rfl (fun hc1 => ?_) (fun hc1 => ?_)
  · replace hm := ite_t hc1 hm
    refine WP.seq ?_
    refine WP.region ?_
    refine WL.quiet (Runs.free rfl) rfl rfl (OV.quiet (ov_build (r := (.agg #[(.int .i64 0), (.int .i64 0)])) rfl rfl (fun _ => by kernel_rfl))) ?_
    refine WL.quiet (Runs.free rfl) rfl rfl (OV.quiet (ov_move rfl rfl)) ?_
    refine WL.step0 (Runs.free rfl) rfl (os_store (i := 1) (vs := [(.int .i64 0), (.int .i64 0)]) (cs' := [(.int .i64 0), (.int .i64 0)]) Tryd.sizeOf23 rfl rfl rfl rfl rfl rfl rfl rfl rfl ?_)
    refine WL.quiet (Runs.free rfl) rfl rfl (OV.quiet (ov_assign rfl rfl)) ?_
    refine WL.nil ?_
    refine then_normal ?_
    refine WP.ret ?_
    refine then_ret ?_
    obtain rfl := Option.some.inj hm
    refine retQ_ret Tryd.results32 (Res.cell rfl (box_loads (i := 1) Tryd.isAgg23 Tryd.sizeOf23 rfl rfl) (Res.tmp rfl Res.nil)) rfl (fun w' s => ⟨s.below, ?_⟩)
    exact rfl
  · replace hm := ite_f hc1 hm
    refine WP.skip ?_
    refine then_normal ?_
    refine WP.seq ?_
    refine WP.region ?_
    refine WL.quiet (Runs.free rfl) rfl rfl (OV.quiet (ov_load_whole (i := 0) Tryd.isAgg23 Tryd.sizeOf23 rfl rfl rfl rfl)) ?_
    refine WL.step0 (Runs.free rfl) rfl (os_store (i := 1) (vs := [(.int .i64 p_low), (.int .i64 p_high)]) (cs' := [(.int .i64 p_low), (.int .i64 p_high)]) Tryd.sizeOf23 rfl rfl rfl rfl rfl rfl rfl rfl rfl ?_)
    refine WL.quiet (Runs.free rfl) rfl rfl (OV.quiet (ov_assign rfl rfl)) ?_
    refine WL.nil ?_
    refine then_normal ?_
    refine WP.ret ?_
    obtain rfl := Option.some.inj hm
    refine retQ_ret Tryd.results32 (Res.cell rfl (box_loads (i := 1) Tryd.isAgg23 Tryd.sizeOf23 rfl rfl) (Res.tmp rfl Res.nil)) rfl (fun w' s => ⟨s.below, ?_⟩)
    exact rfl

theorem timespan_number_con (p_s : (List UInt8)) (w : World) (H : Heap) (hH : Le H (hp w)) (hG : Glob H) (r : (Int × Bool)) (hm : timespan_number p_s = some r) :
    Con Tryd.prog 44 [(mkS p_s)] w H (fun v _ => v = (.tuple #[(.int .i64 r.1), (.bool r.2)])) := by
  unfold timespan_number at hm
  refine con_of hH Tryd.func44 rfl 36 Tryd.ntmps44 rfl ?_
  refine WP.seq ?_
  refine WP.region ?_
  refine WL.quiet (Runs.free rfl) rfl rfl (OV.quiet (ov_assign rfl rfl)) ?_
  refine WL.quiet (Runs.free rfl) rfl rfl (OV.quiet (ov_assign rfl rfl)) ?_
  refine WL.nil ?_
  refine then_normal ?_
  refine WP.seq ?_
  refine WP.seq ?_
  refine WP.region ?_
  refine WL.quiet (Runs.free rfl) rfl rfl (OV.quiet (ov_move rfl rfl)) ?_
  refine WL.quiet (Runs.free rfl) rfl rfl (OV.quiet (ov_seql rfl rfl rfl)) ?_
  refine WL.quiet (Runs.free rfl) rfl rfl (OV.quiet (ov_move rfl rfl)) ?_
  refine WL.cut_bool 4 12 (x := ((p_s == []) || (decide ((p_s.length : Int) > 7)))) ?_ ?_
  · rcases Bool.eq_false_or_eq_true (p_s == []) with hc1 | hc1
    · skip
      refine WL.idle (Idle.no rfl rfl rfl hc1) rfl rfl ?_
      refine WL.idle (Idle.no rfl rfl rfl hc1) rfl rfl ?_
      refine WL.idle (Idle.no rfl rfl rfl hc1) rfl rfl ?_
      refine WL.quiet (Runs.free rfl) rfl rfl (OV.quiet (ov_pick_true rfl (guard_eq rfl hc1) rfl)) ?_
      exact WL.nil ⟨Sub.cons' rfl (congrArg Value.bool (by rw [hc1]; rfl)) (Sub.skip rfl (Sub.skip rfl (Sub.skip rfl (Sub.skip rfl (Sub.refl _))))), fun _ s => s⟩
    · skip
      refine WL.quiet (Runs.yes rfl rfl rfl hc1) rfl rfl (OV.quiet (ov_move rfl rfl)) ?_
      refine WL.quiet (Runs.yes rfl rfl rfl hc1) rfl rfl (OV.quiet (ov_len_string Tryd.underlying9 rfl rfl)) ?_
      refine WL.quiet (Runs.yes rfl rfl rfl hc1) rfl rfl (OV.quiet (ov_gtr rfl rfl rfl)) ?_
      refine WL.quiet (Runs.free rfl) rfl rfl (OV.quiet (ov_pick_false rfl (guard_eq rfl hc1) rfl)) ?_
      exact WL.nil ⟨Sub.cons' rfl (congrArg Value.bool (by rw [hc1]; rfl)) (Sub.skip rfl (Sub.skip rfl (Sub.skip rfl (Sub.skip rfl (Sub.refl _))))), fun _ s => s⟩
  refine WL.quiet (Runs.free rfl) rfl rfl (OV.quiet (ov_move rfl rfl)) ?_
  obtain ⟨c1, e1, hm⟩ := bind_some hm
  refine WL.cut_bool 4 17 (x := c1) ?_ ?_
  · rcases Bool.eq_false_or_eq_true ((p_s == []) || (decide ((p_s.length : Int) > 7))) with hc2 | hc2
    · skip
      replace hm := ite_t hc2 e1
      refine WL.idle (Idle.no rfl rfl rfl hc2) rfl rfl ?_
      refine WL.idle (Idle.no rfl rfl rfl hc2) rfl rfl ?_
      refine WL.idle (Idle.no rfl rfl rfl hc2) rfl rfl ?_
      refine WL.quiet (Runs.free rfl) rfl rfl (OV.quiet (ov_pick_true rfl (guard_eq rfl hc2) rfl)) ?_
      exact WL.nil ⟨Sub.cons' rfl (congrArg Value.bool (Option.some.inj hm)) (Sub.skip rfl (Sub.skip rfl (Sub.skip rfl (Sub.skip rfl (Sub.refl _))))), fun _ s => s⟩
    · skip
      replace hm := ite_f hc2 e1
      refine WL.quiet (Runs.yes rfl rfl rfl hc2) rfl rfl (OV.quiet (ov_move rfl rfl)) ?_
      obtain ⟨r1, e2, hm⟩ := bind_some hm
      refine WL.quiet (Runs.yes rfl rfl rfl hc2) rfl rfl (oq_con (r := (mkS r1)) Tryd.call60 rfl rfl (fun w' s => ⟨_, (trimS_con p_s [48, 49, 50, 51, 52, 53, 54, 55, 56, 57]  w' H s.hold hG r1 e2)⟩)) ?_
      refine WL.quiet (Runs.yes rfl rfl rfl hc2) rfl rfl (OV.quiet (ov_sneq rfl rfl rfl)) ?_
      refine WL.quiet (Runs.free rfl) rfl rfl (OV.quiet (ov_pick_false rfl (guard_eq rfl hc2) rfl)) ?_
      exact WL.nil ⟨Sub.cons' rfl (congrArg Value.bool (Option.some.inj hm)) (Sub.skip rfl (Sub.skip rfl (Sub.skip rfl (Sub.skip rfl (Sub.refl _))))), fun _ s => s⟩
  refine WL.quiet (Runs.free rfl) rfl rfl (OV.quiet (ov_move rfl rfl)) ?_
  obtain ⟨c2, e3, hm⟩ := bind_some hm
  refine WL.cut_bool 9 27 (x := c2) ?_ ?_
  · rcases Bool.eq_false_or_eq_true c1 with hc3 | hc3
    · skip
      replace hm := ite_t hc3 e3
      refine WL.idle (Idle.no rfl rfl rfl hc3) rfl rfl ?_
      refine WL.idle (Idle.no rfl rfl rfl hc3) rfl rfl ?_
      refine WL.idle (Idle.no rfl rfl rfl hc3) rfl rfl ?_
      refine WL.idle (Idle.no rfl rfl rfl hc3) rfl rfl ?_
      refine WL.idle (Idle.undef rfl rfl rfl) rfl rfl ?_
      refine WL.idle (Idle.undef rfl rfl rfl) rfl rfl ?_
      refine WL.idle (Idle.undef rfl rfl rfl) rfl rfl ?_
      refine WL.idle (Idle.no rfl rfl rfl hc3) rfl rfl ?_
      refine WL.quiet (Runs.free rfl) rfl rfl (OV.quiet (ov_pick_true rfl (guard_eq rfl hc3) rfl)) ?_
      exact WL.nil ⟨Sub.cons' rfl (congrArg Value.bool (Option.some.inj hm)) (Sub.skip rfl (Sub.skip rfl (Sub.skip rfl (Sub.skip rfl (Sub.skip rfl (Sub.skip rfl (Sub.skip rfl (Sub.skip rfl (Sub.skip rfl (Sub.refl _)))))))))), fun _ s => s⟩
    · skip
      replace hm := ite_f hc3 e3
      refine WL.quiet (Runs.yes rfl rfl rfl hc3) rfl rfl (OV.quiet (ov_move rfl rfl)) ?_
      obtain ⟨b1, e4, hm⟩ := bind_some hm
      refine WL.quiet (Runs.yes rfl rfl rfl hc3) rfl rfl (OV.quiet (ov_index_string Tryd.underlying9 rfl rfl rfl e4)) ?_
      refine WL.quiet (Runs.yes rfl rfl rfl hc3) rfl rfl (OV.quiet (ov_eql rfl rfl rfl)) ?_
      refine WL.quiet (Runs.yes rfl rfl rfl hc3) rfl rfl (OV.quiet (ov_move rfl rfl)) ?_
      refine WL.cut_bool 4 26 (x := (((b1.toNat : Int) == 48) && (decide ((p_s.length : Int) > 1)))) ?_ ?_
      · rcases Bool.eq_false_or_eq_true ((b1.toNat : Int) == 48) with hc4 | hc4
        · skip
          refine WL.quiet (Runs.yes rfl rfl rfl hc4) rfl rfl (OV.quiet (ov_move rfl rfl)) ?_
          refine WL.quiet (Runs.yes rfl rfl rfl hc4) rfl rfl (OV.quiet (ov_len_string Tryd.underlying9 rfl rfl)) ?_
          refine WL.quiet (Runs.yes rfl rfl rfl hc4) rfl rfl (OV.quiet (ov_gtr rfl rfl rfl)) ?_
          refine WL.quiet (Runs.yes rfl rfl rfl hc3) rfl rfl (OV.quiet (ov_pick_true rfl (guard_eq rfl hc4) rfl)) ?_
          exact WL.nil ⟨Sub.cons' rfl (congrArg Value.bool (by rw [hc4]; rfl)) (Sub.skip rfl (Sub.skip rfl (Sub.skip rfl (Sub.skip rfl (Sub.refl _))))), fun _ s => s⟩
        · skip
          refine WL.idle (Idle.no rfl rfl rfl hc4) rfl rfl ?_
          refine WL.idle (Idle.no rfl rfl rfl hc4) rfl rfl ?_
          refine WL.idle (Idle.no rfl rfl rfl hc4) rfl rfl ?_
          refine WL.quiet (Runs.yes rfl rfl rfl hc3) rfl rfl (OV.quiet (ov_pick_false rfl (guard_eq rfl hc4) rfl)) ?_
          exact WL.nil ⟨Sub.cons' rfl (congrArg Value.bool (by rw [hc4]; rfl)) (Sub.skip rfl (Sub.skip rfl (Sub.skip rfl (Sub.skip rfl (Sub.refl _))))), fun _ s => s⟩
      refine WL.quiet (Runs.free rfl) rfl rfl (OV.quiet (ov_pick_false rfl (guard_eq rfl hc3) rfl)) ?_
      exact WL.nil ⟨Sub.cons' rfl (congrArg Value.bool (Option.some.inj hm)) (Sub.skip rfl (Sub.skip rfl (Sub.skip rfl (Sub.skip rfl (Sub.skip rfl (Sub.skip rfl (Sub.refl _))))))), fun _ s => s⟩
  refine WL.nil ?_
  refine then_normal ?_
  refine WP.cond rfl (fun hc5 => ?_) (fun hc5 => ?_)
  · replace hm := ite_t hc5 hm
    refine WP.seq ?_
    refine WP.region ?_
    refine WL.quiet (Runs.free rfl) rfl rfl (OV.quiet (ov_assign rfl rfl)) ?_
    refine WL.quiet (Runs.free rfl) rfl rfl (OV.quiet (ov_assign rfl rfl)) ?_
    refine WL.nil ?_
    refine then_normal ?_
    refine WP.ret ?_
    refine then_ret ?_
    obtain rfl := Option.some.inj hm
    refine retQ_ret Tryd.results44 (Res.tmp rfl (Res.tmp rfl Res.nil)) rfl (fun w' s => ⟨s.below, ?_⟩)
    exact rfl
  · replace hm := ite_f hc5 hm
    refine WP.skip ?_
    refine then_normal ?_
    refine WP.seq ?_
    refine WP.region ?_
    refine WL.quiet (Runs.free rfl) rfl rfl (OV.quiet (ov_move rfl rfl)) ?_
    obtain ⟨r2, e5, hm⟩ := bind_some hm
    refine WL.quiet (Runs.free rfl) rfl rfl (oq_con (r := (.tuple #[(.int .i64 r2.1), .nilIface])) Tryd.call61 rfl rfl (fun w' s => ⟨_, (strconv_Atoi_con p_s  w' H s.hold hG r2 e5)⟩)) ?_
    refine WL.quiet (Runs.free rfl) rfl rfl (OV.quiet (ov_move rfl rfl)) ?_
    refine WL.quiet (Runs.free rfl) rfl rfl (OV.quiet (ov_extract rfl rfl rfl)) ?_
    refine WL.quiet (Runs.free rfl) rfl rfl (OV.quiet (ov_extract rfl rfl rfl)) ?_
    refine WL.quiet (Runs.free rfl) rfl rfl (OV.quiet (ov_assign rfl rfl)) ?_
    refine WL.quiet (Runs.free rfl) rfl rfl (OV.quiet (ov_assign rfl rfl)) ?_
    refine WL.nil ?_
    refine then_normal ?_
    refine WP.seq ?_
    refine WP.region_draws (by kernel_rfl) (by kernel_rfl) (fun _ s => s.drew) ?_
    refine QL.quiet (Runs.free rfl) rfl rfl (OV.quiet (ov_move rfl rfl)) ?_
    refine QL.quiet (Runs.free rfl) rfl rfl (OV.quiet (ov_move rfl rfl)) ?_
    refine QL.quiet (Runs.free rfl) rfl rfl (OV.quiet (ov_eql_nilI (by kernel_rfl) rfl rfl rfl)) ?_
    refine QL.quiet (Runs.free rfl) rfl rfl (OV.quiet (ov_assign rfl rfl)) ?_
    refine QL.quiet (Runs.free rfl) rfl rfl (OV.quiet (ov_assign rfl rfl)) ?_
    refine QL.nil ?_
    refine then_normal ?_
    refine WP.ret ?_
    obtain rfl := Option.some.inj hm
    refine retQ_ret Tryd.results44 (Res.tmp rfl (Res.tmp rfl Res.nil)) rfl (fun w' s => ⟨s.below, ?_⟩)
    exact rfl

theorem timespan_Parse_con (p_s : (List UInt8)) (w : World) (H : Heap) (hH : Le H (hp w)) (hG : Glob H) (r : (Span × Int)) (hm : timespan_Parse p_s = some r) :
    Con Tryd.prog 14 [(mkS p_s)] w H (fun v _ => v = (.tuple #[(.agg #[(.int .i64 r.1.low), (.int .i64 r.1.high)]), (.int .i64 r.2)])) := by
  unfold timespan_Parse at hm
  refine con_of hH Tryd.func14 rfl 61 Tryd.ntmps14 rfl ?_
  refine WP.seq ?_
  refine WP.region ?_
  refine WL.step (Runs.free rfl) rfl rfl (os_alloc (cs := [(.int .i64 0), (.int .i64 0)]) Tryd.zeroValue23 rfl rfl (fun b1 => ?_))
  refine WL.quiet (Runs.free rfl) rfl rfl (OV.quiet (ov_assign rfl rfl)) ?_
  refine WL.nil ?_
  refine then_normal ?_
  refine WP.seq ?_
  refine WP.seq ?_
  refine WP.region ?_
  refine WL.quiet (Runs.free rfl) rfl rfl (OV.quiet (ov_move rfl rfl)) ?_
  refine WL.quiet (Runs.free rfl) rfl rfl (OV.quiet (ov_len_string Tryd.underlying9 rfl rfl)) ?_
  refine WL.quiet (Runs.free rfl) rfl rfl (OV.quiet (ov_gtr rfl rfl rfl)) ?_
  refine WL.nil ?_
  refine then_normal ?_
  refine WP.cond rfl (fun hc1 => ?_) (fun hc1 => ?_)
  · replace hm := ite_t hc1 hm
    refine WP.seq ?_
    refine WP.region ?_
    refine WL.quiet (Runs.free rfl) rfl rfl (OV.quiet (ov_build (r := (.agg #[(.int .i64 0), (.int .i64 0)])) rfl rfl (fun _ => by kernel_rfl))) ?_
    refine WL.step0 (Runs.free rfl) rfl (os_store (i := 0) (vs := [(.int .i64 0), (.int .i64 0)]) (cs' := [(.int .i64 0), (.int .i64 0)]) Tryd.sizeOf23 rfl rfl rfl rfl rfl rfl rfl rfl rfl ?_)
    refine WL.quiet (Runs.free rfl) rfl rfl (OV.quiet (ov_assign rfl rfl)) ?_
    refine WL.nil ?_
    refine then_normal ?_
    refine WP.ret ?_
    refine then_ret ?_
    obtain rfl := Option.some.inj hm
    refine retQ_ret Tryd.results14 (Res.cell rfl (box_loads (i := 0) Tryd.isAgg23 Tryd.sizeOf23 rfl rfl) (Res.tmp rfl Res.nil)) rfl (fun w' s => ⟨s.below, ?_⟩)
    exact rfl
  · replace hm := ite_f hc1 hm
    refine WP.skip ?_
    refine then_normal ?_
    refine WP.seq ?_
    refine WP.region ?_
    refine WL.quiet (Runs.free rfl) rfl rfl (OV.quiet (ov_move rfl rfl)) ?_
    obtain ⟨r1, e1, hm⟩ := bind_some hm
    refine WL.quiet (Runs.free rfl) rfl rfl (oq_con (r := (.tuple #[(mkS r1.1), (mkS r1.2.1), (.bool r1.2.2)])) Tryd.call43 rfl rfl (fun w' s => ⟨_, (cutS_con p_s [46, 46]  w' H s.hold hG r1 e1)⟩)) ?_
    refine WL.quiet (Runs.free rfl) rfl rfl (OV.quiet (ov_move rfl rfl)) ?_
    refine WL.quiet (Runs.free rfl) rfl rfl (OV.quiet (ov_extract rfl rfl rfl)) ?_
    refine WL.quiet (Runs.free rfl) rfl rfl (OV.quiet (ov_extract rfl rfl rfl)) ?_
    refine WL.quiet (Runs.free rfl) rfl rfl (OV.quiet (ov_extract rfl rfl rfl)) ?_
    refine WL.quiet (Runs.free rfl) rfl rfl (OV.quiet (ov_assign rfl rfl)) ?_
    refine WL.quiet (Runs.free rfl) rfl rfl (OV.quiet (ov_assign rfl rfl)) ?_
    refine WL.quiet (Runs.free rfl) rfl rfl (OV.quiet (ov_assign rfl rfl)) ?_
    refine WL.nil ?_
    refine then_normal ?_
    refine WP.seq ?_
    refine WP.region ?_
    refine WL.quiet (Runs.free rfl) rfl rfl (OV.quiet (ov_move rfl rfl)) ?_
    obtain ⟨r2, e2, hm⟩ := bind_some hm
    refine WL.quiet (Runs.free rfl) rfl rfl (oq_con (r := (.tuple #[(.int .i64 r2.1), (.bool r2.2)])) Tryd.call44 rfl rfl (fun w' s => ⟨_, (timespan_number_con r1.1  w' H s.hold hG r2 e2)⟩)) ?_
    refine WL.quiet (Runs.free rfl) rfl rfl (OV.quiet (ov_move rfl rfl)) ?_
    refine WL.quiet (Runs.free rfl) rfl rfl (OV.quiet (ov_extract rfl rfl rfl)) ?_
    refine WL.quiet (Runs.free rfl) rfl rfl (OV.quiet (ov_extract rfl rfl rfl)) ?_
    refine WL.quiet (Runs.free rfl) rfl rfl (OV.quiet (ov_assign rfl rfl)) ?_
    refine WL.quiet (Runs.free rfl) rfl rfl (OV.quiet (ov_assign rfl rfl)) ?_
    refine WL.nil ?_
    refine then_normal ?_
    refine WP.seq ?_
    refine WP.region ?_
    refine WL.quiet (Runs.free rfl) rfl rfl (OV.quiet (ov_move rfl rfl)) ?_
    refine WL.quiet (Runs.free rfl) rfl rfl (OV.quiet (ov_assign rfl rfl)) ?_
    refine WL.quiet (Runs.free rfl) rfl rfl (OV.quiet (ov_assign rfl rfl)) ?_
    refine WL.nil ?_
    refine then_normal ?_
    obtain ⟨k1, hk1, hm⟩ := joinK_some hm
    refine WP.seq_join (fun g' S' => ∃ (i1 : Int) (c1 : Bool), Sub [(2, (pB b1 0)), (6, (.bool r1.2.2)), (7, (.int .i64 r2.1)), (8, (.bool r2.2)), (9, (.int .i64 i1)), (10, (.bool c1))] g' ∧ (∀ w', S' w' → St w H [.blk b1 23 [(.int .i64 0), (.int .i64 0)]] H w') ∧ k1 i1 c1 = some r) ?_ ?_
    · skip
      refine WP.seq ?_
      refine WP.region ?_
      refine WL.quiet (Runs.free rfl) rfl rfl (OV.quiet (ov_move rfl rfl)) ?_
      refine WL.nil ?_
      refine then_normal ?_
      refine WP.cond rfl (fun hc2 => ?_) (fun hc2 => ?_)
      · replace hm := ite_t hc2 hm
        refine WP.region ?_
        refine WL.quiet (Runs.free rfl) rfl rfl (OV.quiet (ov_move rfl rfl)) ?_
        obtain ⟨r3, e3, hm⟩ := bind_some hm
        refine WL.quiet (Runs.free rfl) rfl rfl (oq_con (r := (.tuple #[(.int .i64 r3.1), (.bool r3.2)])) Tryd.call44 rfl rfl (fun w' s => ⟨_, (timespan_number_con r1.2.1  w' H s.hold hG r3 e3)⟩)) ?_
        refine WL.quiet (Runs.free rfl) rfl rfl (OV.quiet (ov_move rfl rfl)) ?_
        refine WL.quiet (Runs.free rfl) rfl rfl (OV.quiet (ov_extract rfl rfl rfl)) ?_
        refine WL.quiet (Runs.free rfl) rfl rfl (OV.quiet (ov_extract rfl rfl rfl)) ?_
        refine WL.quiet (Runs.free rfl) rfl rfl (OV.quiet (ov_assign rfl rfl)) ?_
        refine WL.quiet (Runs.free rfl) rfl rfl (OV.quiet (ov_assign rfl rfl)) ?_
        refine WL.nil ?_
        refine then_normal ?_
        exact ⟨r3.1, r3.2, (Sub.cons rfl (Sub.cons rfl (Sub.cons rfl (Sub.cons rfl (Sub.cons rfl (Sub.cons rfl (Sub.nil _))))))), fun w' s => s, hm⟩
      · replace hm := ite_f hc2 hm
        refine WP.skip ?_
        refine then_normal ?_
        exact ⟨r2.1, true, (Sub.cons rfl (Sub.cons rfl (Sub.cons rfl (Sub.cons rfl (Sub.cons rfl (Sub.cons rfl (Sub.nil _))))))), fun w' s => s, hm⟩
    · rintro g' S' ⟨i1, c1, hsub1, hS1, hm⟩
      refine WP.sub hsub1 (WP.weaken hS1 ?_)
      replace hm := (congrFun (congrFun hk1 i1) c1).symm.trans hm
      refine WP.seq ?_
      refine WP.seq ?_
      refine WP.region ?_
      refine WL.quiet (Runs.free rfl) rfl rfl (OV.quiet (ov_move rfl rfl)) ?_
      refine WL.quiet (Runs.free rfl) rfl rfl (OV.quiet (ov_not rfl rfl)) ?_
      refine WL.quiet (Runs.free rfl) rfl rfl (OV.quiet (ov_move rfl rfl)) ?_
      refine WL.cut_bool 3 40 (x := ((!r2.2) || (!c1))) ?_ ?_
      · rcases Bool.eq_false_or_eq_true (!r2.2) with hc3 | hc3
        · skip
          refine WL.idle (Idle.no rfl rfl rfl hc3) rfl rfl ?_
          refine WL.idle (Idle.no rfl rfl rfl hc3) rfl rfl ?_
          refine WL.quiet (Runs.free rfl) rfl rfl (OV.quiet (ov_pick_true rfl (guard_eq rfl hc3) rfl)) ?_
          exact WL.nil ⟨Sub.cons' rfl (congrArg Value.bool (by rw [hc3]; rfl)) (Sub.skip rfl (Sub.skip rfl (Sub.skip rfl (Sub.refl _)))), fun _ s => s⟩
        · skip
          refine WL.quiet (Runs.yes rfl rfl rfl hc3) rfl rfl (OV.quiet (ov_move rfl rfl)) ?_
          refine WL.quiet (Runs.yes rfl rfl rfl hc3) rfl rfl (OV.quiet (ov_not rfl rfl)) ?_
          refine WL.quiet (Runs.free rfl) rfl rfl (OV.quiet (ov_pick_false rfl (guard_eq rfl hc3) rfl)) ?_
          exact WL.nil ⟨Sub.cons' rfl (congrArg Value.bool (by rw [hc3]; rfl)) (Sub.skip rfl (Sub.skip rfl (Sub.skip rfl (Sub.refl _)))), fun _ s => s⟩
      refine WL.nil ?_
      refine then_normal ?_
      refine WP.cond rfl (fun hc4 => ?_) (fun hc4 => ?_)
      · replace hm := ite_t hc4 hm
        refine WP.seq ?_
        refine WP.region ?_
        refine WL.quiet (Runs.free rfl) rfl rfl (OV.quiet (ov_build (r := (.agg #[(.int .i64 0), (.int .i64 0)])) rfl rfl (fun _ => by kernel_rfl))) ?_
        refine WL.step0 (Runs.free rfl) rfl (os_store (i := 0) (vs := [(.int .i64 0), (.int .i64 0)]) (cs' := [(.int .i64 0), (.int .i64 0)]) Tryd.sizeOf23 rfl rfl rfl rfl rfl rfl rfl rfl rfl ?_)
        refine WL.quiet (Runs.free rfl) rfl rfl (OV.quiet (ov_assign rfl rfl)) ?_
        refine WL.nil ?_
        refine then_normal ?_
        refine WP.ret ?_
        refine then_ret ?_
        obtain rfl := Option.some.inj hm
        refine retQ_ret Tryd.results14 (Res.cell rfl (box_loads (i := 0) Tryd.isAgg23 Tryd.sizeOf23 rfl rfl) (Res.tmp rfl Res.nil)) rfl (fun w' s => ⟨s.below, ?_⟩)
        exact rfl
      · replace hm := ite_f hc4 hm
        refine WP.skip ?_
        refine then_normal ?_
        refine WP.seq ?_
        refine WP.region ?_
        refine WL.quiet (Runs.free rfl) rfl rfl (OV.quiet (ov_move rfl rfl)) ?_
        refine WL.quiet (Runs.free rfl) rfl rfl (OV.quiet (ov_move rfl rfl)) ?_
        obtain ⟨r4, e4, hm⟩ := bind_some hm
        refine WL.quiet (Runs.free rfl) rfl rfl (oq_con (r := (.tuple #[(.agg #[(.int .i64 r4.1.low), (.int .i64 r4.1.high)]), (.int .i64 r4.2)])) Tryd.call32 rfl rfl (fun w' s => ⟨_, (timespan_Of_con r2.1 i1  w' H s.hold hG r4 e4)⟩)) ?_
        refine WL.quiet (Runs.free rfl) rfl rfl (OV.quiet (ov_move rfl rfl)) ?_
        refine WL.quiet (Runs.free rfl) rfl rfl (OV.quiet (ov_extract rfl rfl rfl)) ?_
        refine WL.quiet (Runs.free rfl) rfl rfl (OV.quiet (ov_extract rfl rfl rfl)) ?_
        refine WL.step (Runs.free rfl) rfl rfl (os_alloc (cs := [(.int .i64 0), (.int .i64 0)]) Tryd.zeroValue23 rfl rfl (fun b2 => ?_))
        refine WL.step0 (Runs.free rfl) rfl (os_store (i := 0) (vs := [(.int .i64 r4.1.low), (.int .i64 r4.1.high)]) (cs' := [(.int .i64 r4.1.low), (.int .i64 r4.1.high)]) Tryd.sizeOf23 rfl rfl rfl rfl rfl rfl rfl rfl rfl ?_)
        refine WL.quiet (Runs.free rfl) rfl rfl (OV.quiet (ov_assign rfl rfl)) ?_
        refine WL.nil ?_
        refine then_normal ?_
        refine WP.seq ?_
        refine WP.seq ?_
        refine WP.region ?_
        refine WL.quiet (Runs.free rfl) rfl rfl (OV.quiet (ov_move rfl rfl)) ?_
        refine WL.quiet (Runs.free rfl) rfl rfl (OV.quiet (ov_eql rfl rfl rfl)) ?_
        refine WL.quiet (Runs.free rfl) rfl rfl (OV.quiet (ov_move rfl rfl)) ?_
        refine WL.cut_bool 2 52 (x := ((r4.2 == 0) && r1.2.2)) ?_ ?_
        · rcases Bool.eq_false_or_eq_true (r4.2 == 0) with hc5 | hc5
          · skip
            refine WL.quiet (Runs.yes rfl rfl rfl hc5) rfl rfl (OV.quiet (ov_move rfl rfl)) ?_
            refine WL.quiet (Runs.free rfl) rfl rfl (OV.quiet (ov_pick_true rfl (guard_eq rfl hc5) rfl)) ?_
            exact WL.nil ⟨Sub.cons' rfl (congrArg Value.bool (by rw [hc5]; rfl)) (Sub.skip rfl (Sub.skip rfl (Sub.refl _))), fun _ s => s⟩
          · skip
            refine WL.idle (Idle.no rfl rfl rfl hc5) rfl rfl ?_
            refine WL.quiet (Runs.free rfl) rfl rfl (OV.quiet (ov_pick_false rfl (guard_eq rfl hc5) rfl)) ?_
            exact WL.nil ⟨Sub.cons' rfl (congrArg Value.bool (by rw [hc5]; rfl)) (Sub.skip rfl (Sub.skip rfl (Sub.refl _))), fun _ s => s⟩
        refine WL.quiet (Runs.free rfl) rfl rfl (OV.quiet (ov_move rfl rfl)) ?_
        refine WL.cut_bool 4 57 (x := (((r4.2 == 0) && r1.2.2) && (r2.1 == i1))) ?_ ?_
        · rcases Bool.eq_false_or_eq_true ((r4.2 == 0) && r1.2.2) with hc6 | hc6
          · skip
            refine WL.quiet (Runs.yes rfl rfl rfl hc6) rfl rfl (OV.quiet (ov_move rfl rfl)) ?_
            refine WL.quiet (Runs.yes rfl rfl rfl hc6) rfl rfl (OV.quiet (ov_move rfl rfl)) ?_
            refine WL.quiet (Runs.yes rfl rfl rfl hc6) rfl rfl (OV.quiet (ov_eql rfl rfl rfl)) ?_
            refine WL.quiet (Runs.free rfl) rfl rfl (OV.quiet (ov_pick_true rfl (guard_eq rfl hc6) rfl)) ?_
            exact WL.nil ⟨Sub.cons' rfl (congrArg Value.bool (by rw [hc6]; rfl)) (Sub.skip rfl (Sub.skip rfl (Sub.skip rfl (Sub.skip rfl (Sub.refl _))))), fun _ s => s⟩
          · skip
            refine WL.idle (Idle.no rfl rfl rfl hc6) rfl rfl ?_
            refine WL.idle (Idle.no rfl rfl rfl hc6) rfl rfl ?_
            refine WL.idle (Idle.no rfl rfl rfl hc6) rfl rfl ?_
            refine WL.quiet (Runs.free rfl) rfl rfl (OV.quiet (ov_pick_false rfl (guard_eq rfl hc6) rfl)) ?_
            exact WL.nil ⟨Sub.cons' rfl (congrArg Value.bool (by rw [hc6]; rfl)) (Sub.skip rfl (Sub.skip rfl (Sub.skip rfl (Sub.skip rfl (Sub.refl _))))), fun _ s => s⟩
        refine WL.nil ?_
        refine then_normal ?_
        refine WP.cond rfl (fun hc7 => ?_) (fun hc7 => ?_)
        · replace hm := ite_t hc7 hm
          refine WP.seq ?_
          refine WP.region ?_
          refine WL.quiet (Runs.free rfl) rfl rfl (OV.quiet (ov_build (r := (.agg #[(.int .i64 0), (.int .i64 0)])) rfl rfl (fun _ => by kernel_rfl))) ?_
          refine WL.step0 (Runs.free rfl) rfl (os_store (i := 1) (vs := [(.int .i64 0), (.int .i64 0)]) (cs' := [(.int .i64 0), (.int .i64 0)]) Tryd.sizeOf23 rfl rfl rfl rfl rfl rfl rfl rfl rfl ?_)
          refine WL.quiet (Runs.free rfl) rfl rfl (OV.quiet (ov_assign rfl rfl)) ?_
          refine WL.nil ?_
          refine then_normal ?_
          refine WP.ret ?_
          refine then_ret ?_
          obtain rfl := Option.some.inj hm
          refine retQ_ret Tryd.results14 (Res.cell rfl (box_loads (i := 1) Tryd.isAgg23 Tryd.sizeOf23 rfl rfl) (Res.tmp rfl Res.nil)) rfl (fun w' s => ⟨s.below, ?_⟩)
          exact rfl
        · replace hm := ite_f hc7 hm
          refine WP.skip ?_
          refine then_normal ?_
          refine WP.seq ?_
          refine WP.region ?_
          refine WL.quiet (Runs.free rfl) rfl rfl (OV.quiet (ov_load_whole (i := 0) Tryd.isAgg23 Tryd.sizeOf23 rfl rfl rfl rfl)) ?_
          refine WL.quiet (Runs.free rfl) rfl rfl (OV.quiet (ov_move rfl rfl)) ?_
          refine WL.step0 (Runs.free rfl) rfl (os_store (i := 1) (vs := [(.int .i64 r4.1.low), (.int .i64 r4.1.high)]) (cs' := [(.int .i64 r4.1.low), (.int .i64 r4.1.high)]) Tryd.sizeOf23 rfl rfl rfl rfl rfl rfl rfl rfl rfl ?_)
          refine WL.quiet (Runs.free rfl) rfl rfl (OV.quiet (ov_assign rfl rfl)) ?_
          refine WL.nil ?_
          refine then_normal ?_
          refine WP.ret ?_
          obtain rfl := Option.some.inj hm
          refine retQ_ret Tryd.results14 (Res.cell rfl (box_loads (i := 1) Tryd.isAgg23 Tryd.sizeOf23 rfl rfl) (Res.tmp rfl Res.nil)) rfl (fun w' s => ⟨s.below, ?_⟩)
          exact rfl

theorem ref03_Of_con (p_low : Int) (p_high : Int) (w : World) (H : Heap) (hH : Le H (hp w)) (hG : Glob H) (r : (Span × Int)) (hm : ref03_Of p_low p_high = some r) :
    Con Tryd.prog 33 [(.int .i64 p_low), (.int .i64 p_high)] w H (fun v _ => v = (.tuple #[(.agg #[(.int .i64 r.1.low), (.int .i64 r.1.high)]), (.int .i64 r.2)])) := by
  unfold ref03_Of at hm
  refine con_of hH Tryd.func33 rfl 18 Tryd.ntmps33 rfl ?_
  refine WP.seq ?_
  refine WP.region ?_
  refine WL.step (Runs.free rfl) rfl rfl (os_alloc (cs := [(.int .i64 0), (.int .i64 0)]) Tryd.zeroValue23 rfl rfl (fun b1 => ?_))
  refine WL.quiet (Runs.free rfl) rfl rfl (OV.quiet (ov_assign rfl rfl)) ?_
  refine WL.nil ?_
  refine then_normal ?_
  refine WP.seq ?_
  refine WP.seq ?_
  refine WP.region ?_
  refine WL.quiet (Runs.free rfl) rfl rfl (OV.quiet (ov_move rfl rfl)) ?_
  refine WL.quiet (Runs.free rfl) rfl rfl (OV.quiet (ov_move rfl rfl)) ?_
  refine WL.quiet (Runs.free rfl) rfl rfl (OV.quiet (ov_build (r := (.agg #[(.int .i64 p_low), (.int .i64 p_high)])) rfl rfl (fun _ => by kernel_rfl))) ?_
  obtain ⟨r1, e1, hm⟩ := bind_some hm
  refine WL.quiet (Runs.free rfl) rfl rfl (oq_con (r := (.int .i64 r1)) Tryd.call21 rfl rfl (fun w' s => ⟨_, (ref03_Check_con (Span.mk p_low p_high)  w' H s.hold hG r1 e1)⟩)) ?_
  refine WL.quiet (Runs.free rfl) rfl rfl (OV.quiet (ov_assign rfl rfl)) ?_
  refine WL.nil ?_
  refine then_normal ?_
  refine WP.seq ?_
  refine WP.region ?_
  refine WL.quiet (Runs.free rfl) rfl rfl (OV.quiet (ov_move rfl rfl)) ?_
  refine WL.quiet (Runs.free rfl) rfl rfl (OV.quiet (ov_neq rfl rfl rfl)) ?_
  refine WL.nil ?_
  refine then_normal ?_
  refine WP.cond rfl (fun hc1 => ?_) (fun hc1 => ?_)
  · replace hm := ite_t hc1 hm
    refine WP.seq ?_
    refine WP.region ?_
    refine WL.quiet (Runs.free rfl) rfl rfl (OV.quiet (ov_build (r := (.agg #[(.int .i64 0), (.int .i64 0)])) rfl rfl (fun _ => by kernel_rfl))) ?_
    refine WL.quiet (Runs.free rfl) rfl rfl (OV.quiet (ov_move rfl rfl)) ?_
    refine WL.step0 (Runs.free rfl) rfl (os_store (i := 0) (vs := [(.int .i64 0), (.int .i64 0)]) (cs' := [(.int .i64 0), (.int .i64 0)]) Tryd.sizeOf23 rfl rfl rfl rfl rfl rfl rfl rfl rfl ?_)
    refine WL.quiet (Runs.free rfl) rfl rfl (OV.quiet (ov_assign rfl rfl)) ?_
    refine WL.nil ?_
    refine then_normal ?_
    refine WP.ret ?_
    refine then_ret ?_
    obtain rfl := Option.some.inj hm
    refine retQ_ret Tryd.results33 (Res.cell rfl (box_loads (i := 0) Tryd.isAgg23 Tryd.sizeOf23 rfl rfl) (Res.tmp rfl Res.nil)) rfl (fun w' s => ⟨s.below, ?_⟩)
    exact rfl
  · replace hm := ite_f hc1 hm
    refine WP.skip ?_
    refine then_normal ?_
    refine WP.seq ?_
    refine WP.region ?_
    refine WL.quiet (Runs.free rfl) rfl rfl (OV.quiet (ov_move rfl rfl)) ?_
    refine WL.quiet (Runs.free rfl) rfl rfl (OV.quiet (ov_move rfl rfl)) ?_
    refine WL.quiet (Runs.free rfl) rfl rfl (OV.quiet (ov_build (r := (.agg #[(.int .i64 p_low), (.int .i64 p_high)])) rfl rfl (fun _ => by kernel_rfl))) ?_
    refine WL.step0 (Runs.free rfl) rfl (os_store (i := 0) (vs := [(.int .i64 p_low), (.int .i64 p_high)]) (cs' := [(.int .i64 p_low), (.int .i64 p_high)]) Tryd.sizeOf23 rfl rfl rfl rfl rfl rfl rfl rfl rfl ?_)
    refine WL.quiet (Runs.free rfl) rfl rfl (OV.quiet (ov_assign rfl rfl)) ?_
    refine WL.nil ?_
    refine then_normal ?_
    refine WP.ret ?_
    obtain rfl := Option.some.inj hm
    refine retQ_ret Tryd.results33 (Res.cell rfl (box_loads (i := 0) Tryd.isAgg23 Tryd.sizeOf23 rfl rfl) (Res.tmp rfl Res.nil)) rfl (fun w' s => ⟨s.below, ?_⟩)
    exact rfl

theorem ref03_dots_con (p_s : (List UInt8)) (w : World) (H : Heap) (hH : Le H (hp w)) (hG : Glob H) (r : Int) (hm : ref03_dots p_s = some r) :
    Con Tryd.prog 45 [(mkS p_s)] w H (fun v _ => v = (.int .i64 r)) := by
  unfold ref03_dots at hm
  refine con_of hH Tryd.func45 rfl 25 Tryd.ntmps45 rfl ?_
  refine WP.seq ?_
  refine WP.region ?_
  refine WL.quiet (Runs.free rfl) rfl rfl (OV.quiet (ov_assign rfl rfl)) ?_
  refine WL.nil ?_
  refine then_normal ?_
  obtain ⟨k1, hk1, hm⟩ := joinK_some hm
  refine WP.seq_join (fun g' S' => Sub [(0, (mkS p_s))] g' ∧ (∀ w', S' w' → St w H [] H w') ∧ k1 = some r) ?_ ?_
  · skip
    refine WP.seq ?_
    refine WP.region ?_
    refine WL.quiet (Runs.free rfl) rfl rfl (OV.quiet (ov_assign rfl rfl)) ?_
    refine WL.nil ?_
    refine then_normal ?_
    refine WP.block ?_
    refine WP.loop (fun m1 g' S' => ∃ (i1 : Int), Sub [(0, (mkS p_s)), (3, (.int .i64 i1))] g' ∧ (∀ w', S' w' → St w H [] H w') ∧ ref03_dots_loop1 p_s k1 m1 i1 = some r) ((Int.toNat ((p_s.length : Int) - (IntKind.wrap .i64 (0 + 1))) + 1)) ⟨0, (Sub.cons rfl (Sub.cons rfl (Sub.nil _))), fun w' s => s, hm⟩ ?_ ?_
    · rintro g' S' ⟨_, _, _, hm⟩
      exact none_some hm
    · rintro m1 g' S' ⟨i1, hsub1, hS1, hm⟩
      refine WP.sub hsub1 (WP.weaken hS1 ?_)
      rw [ref03_dots_loop1] at hm
      refine WP.seq ?_
      refine WP.seq ?_
      refine WP.region ?_
      refine WL.quiet (Runs.free rfl) rfl rfl (OV.quiet (ov_move rfl rfl)) ?_
      refine WL.quiet (Runs.free rfl) rfl rfl (OV.quiet (ov_add rfl rfl rfl)) ?_
      refine WL.quiet (Runs.free rfl) rfl rfl (OV.quiet (ov_move rfl rfl)) ?_
      refine WL.quiet (Runs.free rfl) rfl rfl (OV.quiet (ov_len_string Tryd.underlying9 rfl rfl)) ?_
      refine WL.quiet (Runs.free rfl) rfl rfl (OV.quiet (ov_lss rfl rfl rfl)) ?_
      refine WL.nil ?_
      refine then_normal ?_
      refine WP.cond rfl (fun hc1 => ?_) (fun hc1 => ?_)
      · replace hm := ite_t hc1 hm
        refine WP.skip ?_
        refine then_normal ?_
        refine WP.seq ?_
        refine WP.block ?_
        refine WP.seq ?_
        refine WP.region ?_
        refine WL.quiet (Runs.free rfl) rfl rfl (OV.quiet (ov_move rfl rfl)) ?_
        refine WL.quiet (Runs.free rfl) rfl rfl (OV.quiet (ov_move rfl rfl)) ?_
        obtain ⟨b1, e1, hm⟩ := bind_some hm
        refine WL.quiet (Runs.free rfl) rfl rfl (OV.quiet (ov_index_string Tryd.underlying9 rfl rfl rfl e1)) ?_
        refine WL.quiet (Runs.free rfl) rfl rfl (OV.quiet (ov_eql rfl rfl rfl)) ?_
        refine WL.quiet (Runs.free rfl) rfl rfl (OV.quiet (ov_move rfl rfl)) ?_
        obtain ⟨c1, e2, hm⟩ := bind_some hm
        refine WL.cut_bool 6 21 (x := c1) ?_ ?_
        · rcases Bool.eq_false_or_eq_true ((b1.toNat : Int) == 46) with hc2 | hc2
          · skip
            replace hm := ite_t hc2 e2
            refine WL.quiet (Runs.yes rfl rfl rfl hc2) rfl rfl (OV.quiet (ov_move rfl rfl)) ?_
            refine WL.quiet (Runs.yes rfl rfl rfl hc2) rfl rfl (OV.quiet (ov_move rfl rfl)) ?_
            refine WL.quiet (Runs.yes rfl rfl rfl hc2) rfl rfl (OV.quiet (ov_add rfl rfl rfl)) ?_
            obtain ⟨b2, e3, hm⟩ := bind_some hm
            refine WL.quiet (Runs.yes rfl rfl rfl hc2) rfl rfl (OV.quiet (ov_index_string Tryd.underlying9 rfl rfl rfl e3)) ?_
            refine WL.quiet (Runs.yes rfl rfl rfl hc2) rfl rfl (OV.quiet (ov_eql rfl rfl rfl)) ?_
            refine WL.quiet (Runs.free rfl) rfl rfl (OV.quiet (ov_pick_true rfl (guard_eq rfl hc2) rfl)) ?_
            exact WL.nil ⟨Sub.cons' rfl (congrArg Value.bool (Option.some.inj hm)) (Sub.skip rfl (Sub.skip rfl (Sub.skip rfl (Sub.skip rfl (Sub.skip rfl (Sub.skip rfl (Sub.refl _))))))), fun _ s => s⟩
          · skip
            replace hm := ite_f hc2 e2
            refine WL.idle (Idle.no rfl rfl rfl hc2) rfl rfl ?_
            refine WL.idle (Idle.no rfl rfl rfl hc2) rfl rfl ?_
            refine WL.idle (Idle.no rfl rfl rfl hc2) rfl rfl ?_
            refine WL.idle (Idle.no rfl rfl rfl hc2) rfl rfl ?_
            refine WL.idle (Idle.no rfl rfl rfl hc2) rfl rfl ?_
            refine WL.quiet (Runs.free rfl) rfl rfl (OV.quiet (ov_pick_false rfl (guard_eq rfl hc2) rfl)) ?_
            exact WL.nil ⟨Sub.cons' rfl (congrArg Value.bool (Option.some.inj hm)) (Sub.skip rfl (Sub.skip rfl (Sub.skip rfl (Sub.skip rfl (Sub.skip rfl (Sub.skip rfl (Sub.refl _))))))), fun _ s => s⟩
        refine WL.nil ?_
        refine then_normal ?_
        refine WP.cond rfl (fun hc3 => ?_) (fun hc3 => ?_)
        · replace hm := ite_t hc3 hm
          refine WP.seq ?_
          refine WP.region ?_
          refine WL.quiet (Runs.free rfl) rfl rfl (OV.quiet (ov_move rfl rfl)) ?_
          refine WL.quiet (Runs.free rfl) rfl rfl (OV.quiet (ov_assign rfl rfl)) ?_
          refine WL.nil ?_
          refine then_normal ?_
          refine WP.ret ?_
          refine block_ret ?_
          refine then_ret ?_
          refine then_ret ?_
          refine block_ret ?_
          refine then_ret ?_
          obtain rfl := Option.some.inj hm
          refine retQ_ret Tryd.results45 (Res.tmp rfl Res.nil) rfl (fun w' s => ⟨s.below, ?_⟩)
          exact rfl
        · replace hm := ite_f hc3 hm
          refine WP.skip ?_
          refine block_normal ?_
          refine then_normal ?_
          refine WP.region ?_
          refine WL.quiet (Runs.free rfl) rfl rfl (OV.quiet (ov_move rfl rfl)) ?_
          refine WL.quiet (Runs.free rfl) rfl rfl (OV.quiet (ov_add rfl rfl rfl)) ?_
          refine WL.quiet (Runs.free rfl) rfl rfl (OV.quiet (ov_assign rfl rfl)) ?_
          refine WL.nil ?_
          refine then_normal ?_
          exact ⟨(IntKind.wrap .i64 (i1 + 1)), (Sub.cons rfl (Sub.cons rfl (Sub.nil _))), fun w' s => s, hm⟩
      · replace hm := ite_f hc1 hm
        refine WP.exit ?_
        refine then_exit ?_
        refine then_exit ?_
        refine block_here ?_
        refine then_normal ?_
        exact ⟨(Sub.cons rfl (Sub.nil _)), fun w' s => s, hm⟩
  · rintro g' S' ⟨hsub2, hS2, hm⟩
    refine WP.sub hsub2 (WP.weaken hS2 ?_)
    replace hm := hk1.symm.trans hm
    refine WP.seq ?_
    refine WP.region ?_
    refine WL.quiet (Runs.free rfl) rfl rfl (OV.quiet (ov_move rfl rfl)) ?_
    refine WL.quiet (Runs.free rfl) rfl rfl (OV.quiet (ov_len_string Tryd.underlying9 rfl rfl)) ?_
    refine WL.quiet (Runs.free rfl) rfl rfl (OV.quiet (ov_assign rfl rfl)) ?_
    refine WL.nil ?_
    refine then_normal ?_
    refine WP.ret ?_
    obtain rfl := Option.some.inj hm
    refine retQ_ret Tryd.results45 (Res.tmp rfl Res.nil) rfl (fun w' s => ⟨s.below, ?_⟩)
    exact rfl

end Go.Proofs.YtllhdlnnlckceaaDoor.W
