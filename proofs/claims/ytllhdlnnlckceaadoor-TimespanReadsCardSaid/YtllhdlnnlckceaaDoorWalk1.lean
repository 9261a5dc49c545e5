/- The walks. Written by our own program gen.py; Lean checks it. -/
import Derived.Test.YtllhdlnnlckceaaDoorPlain
import Derived.Test.YtllhdlnnlckceaaDoorEqs
import Derived.Test.YtllhdlnnlckceaaDoorProg
import Derived.Test.YtllhdlnnlckceaaDoorStdWalk0
import Derived.Test.YtllhdlnnlckceaaDoorTrim
import Derived.Test.YtllhdlnnlckceaaDoorWalk0
set_option linter.unusedVariables false
set_option maxRecDepth 100000
namespace Go.Proofs.YtllhdlnnlckceaaDoor.W
open Go Go.RowKit
theorem ref03_Number_con (p_s : (List UInt8)) (w : World) (H : Heap) (hH : Le H (hp w)) (hG : Glob H) (r : (Int × Bool)) (hm : ref03_Number p_s = some r) :
    Con Tryd.prog 46 [(mkS p_s)] w H (fun v _ => v = (.tuple #[(.int .i64 r.1), (.bool r.2)])) := by
  unfold ref03_Number at hm
  refine con_of hH Tryd.func46 rfl 48 Tryd.ntmps46 rfl ?_
  refine WP.seq ?_
  refine WP.region ?_
  refine WL.quiet (Runs.free rfl) rfl rfl (OV.quiet (ov_assign rfl rfl)) ?_
  refine WL.quiet (Runs.free rfl) rfl rfl (OV.quiet (ov_assign rfl rfl)) ?_
  refine WL.nil ?_
  refine then_normal ?_
  refine WP.seq ?_
  refine WP.seq ?_
  refine WP.region ?_
  refine WL.quiet (Runs.free rfl) rfl rfl (OV.quiet (ov_move rfl rfl)) ?_
  refine WL.quiet (Runs.free rfl) rfl rfl (OV.quiet (ov_seql rfl rfl rfl)) ?_
  refine WL.quiet (Runs.free rfl) rfl rfl (OV.quiet (ov_move rfl rfl)) ?_
  refine WL.cut_bool 4 12 (x := ((p_s == []) || (decide ((p_s.length : Int) > 7)))) ?_ ?_
  · rcases Bool.eq_false_or_eq_true (p_s == []) with hc1 | hc1
    · skip
      refine WL.idle (Idle.no rfl rfl rfl hc1) rfl rfl ?_
      refine WL.idle (Idle.no rfl rfl rfl hc1) rfl rfl ?_
      refine WL.idle (Idle.no rfl rfl rfl hc1) rfl rfl ?_
      refine WL.quiet (Runs.free rfl) rfl rfl (OV.quiet (ov_pick_true rfl (guard_eq rfl hc1) rfl)) ?_
      exact WL.nil ⟨Sub.cons' rfl (congrArg Value.bool (by rw [hc1]; rfl)) (Sub.skip rfl (Sub.skip rfl (Sub.skip rfl (Sub.skip rfl (Sub.refl _))))), fun _ s => s⟩
    · skip
      refine WL.quiet (Runs.yes rfl rfl rfl hc1) rfl rfl (OV.quiet (ov_move rfl rfl)) ?_
      refine WL.quiet (Runs.yes rfl rfl rfl hc1) rfl rfl (OV.quiet (ov_len_string Tryd.underlying9 rfl rfl)) ?_
      refine WL.quiet (Runs.yes rfl rfl rfl hc1) rfl rfl (OV.quiet (ov_gtr rfl rfl rfl)) ?_
      refine WL.quiet (Runs.free rfl) rfl rfl (OV.quiet (ov_pick_false rfl (guard_eq rfl hc1) rfl)) ?_
      exact WL.nil ⟨Sub.cons' rfl (congrArg Value.bool (by rw [hc1]; rfl)) (Sub.skip rfl (Sub.skip rfl (Sub.skip rfl (Sub.skip rfl (Sub.refl _))))), fun _ s => s⟩
  refine WL.quiet (Runs.free rfl) rfl rfl (OV.quiet (ov_move rfl rfl)) ?_
  obtain ⟨c1, e1, hm⟩ := bind_some hm
  refine WL.cut_bool 9 22 (x := c1) ?_ ?_
  · rcases Bool.eq_false_or_eq_true ((p_s == []) || (decide ((p_s.length : Int) > 7))) with hc2 | hc2
    · skip
      replace hm := ite_t hc2 e1
      refine WL.idle (Idle.no rfl rfl rfl hc2) rfl rfl ?_
      refine WL.idle (Idle.no rfl rfl rfl hc2) rfl rfl ?_
      refine WL.idle (Idle.no rfl rfl rfl hc2) rfl rfl ?_
      refine WL.idle (Idle.no rfl rfl rfl hc2) rfl rfl ?_
      refine WL.idle (Idle.undef rfl rfl rfl) rfl rfl ?_
      refine WL.idle (Idle.undef rfl rfl rfl) rfl rfl ?_
      refine WL.idle (Idle.undef rfl rfl rfl) rfl rfl ?_
      refine WL.idle (Idle.no rfl rfl rfl hc2) rfl rfl ?_
      refine WL.quiet (Runs.free rfl) rfl rfl (OV.quiet (ov_pick_true rfl (guard_eq rfl hc2) rfl)) ?_
      exact WL.nil ⟨Sub.cons' rfl (congrArg Value.bool (Option.some.inj hm)) (Sub.skip rfl (Sub.skip rfl (Sub.skip rfl (Sub.skip rfl (Sub.skip rfl (Sub.skip rfl (Sub.skip rfl (Sub.skip rfl (Sub.skip rfl (Sub.refl _)))))))))), fun _ s => s⟩
    · skip
      replace hm := ite_f hc2 e1
      refine WL.quiet (Runs.yes rfl rfl rfl hc2) rfl rfl (OV.quiet (ov_move rfl rfl)) ?_
      refine WL.quiet (Runs.yes rfl rfl rfl hc2) rfl rfl (OV.quiet (ov_len_string Tryd.underlying9 rfl rfl)) ?_
      refine WL.quiet (Runs.yes rfl rfl rfl hc2) rfl rfl (OV.quiet (ov_gtr rfl rfl rfl)) ?_
      refine WL.quiet (Runs.yes rfl rfl rfl hc2) rfl rfl (OV.quiet (ov_move rfl rfl)) ?_
      obtain ⟨c2, e2, hm⟩ := bind_some hm
      refine WL.cut_bool 4 21 (x := c2) ?_ ?_
      · rcases Bool.eq_false_or_eq_true (decide ((p_s.length : Int) > 1)) with hc3 | hc3
        · skip
          replace hm := ite_t hc3 e2
          refine WL.quiet (Runs.yes rfl rfl rfl hc3) rfl rfl (OV.quiet (ov_move rfl rfl)) ?_
          obtain ⟨b1, e3, hm⟩ := bind_some hm
          refine WL.quiet (Runs.yes rfl rfl rfl hc3) rfl rfl (OV.quiet (ov_index_string Tryd.underlying9 rfl rfl rfl e3)) ?_
          refine WL.quiet (Runs.yes rfl rfl rfl hc3) rfl rfl (OV.quiet (ov_eql rfl rfl rfl)) ?_
          refine WL.quiet (Runs.yes rfl rfl rfl hc2) rfl rfl (OV.quiet (ov_pick_true rfl (guard_eq rfl hc3) rfl)) ?_
          exact WL.nil ⟨Sub.cons' rfl (congrArg Value.bool (Option.some.inj hm)) (Sub.skip rfl (Sub.skip rfl (Sub.skip rfl (Sub.skip rfl (Sub.refl _))))), fun _ s => s⟩
        · skip
          replace hm := ite_f hc3 e2
          refine WL.idle (Idle.no rfl rfl rfl hc3) rfl rfl ?_
          refine WL.idle (Idle.no rfl rfl rfl hc3) rfl rfl ?_
          refine WL.idle (Idle.no rfl rfl rfl hc3) rfl rfl ?_
          refine WL.quiet (Runs.yes rfl rfl rfl hc2) rfl rfl (OV.quiet (ov_pick_false rfl (guard_eq rfl hc3) rfl)) ?_
          exact WL.nil ⟨Sub.cons' rfl (congrArg Value.bool (Option.some.inj hm)) (Sub.skip rfl (Sub.skip rfl (Sub.skip rfl (Sub.skip rfl (Sub.refl _))))), fun _ s => s⟩
      refine WL.quiet (Runs.free rfl) rfl rfl (OV.quiet (ov_pick_false rfl (guard_eq rfl hc2) rfl)) ?_
      exact WL.nil ⟨Sub.cons' rfl (congrArg Value.bool (Option.some.inj hm)) (Sub.skip rfl (Sub.skip rfl (Sub.skip rfl (Sub.skip rfl (Sub.skip rfl (Sub.skip rfl (Sub.refl _))))))), fun _ s => s⟩
  refine WL.nil ?_
  refine then_normal ?_
  refine WP.cond rfl (fun hc4 => ?_) (fun hc4 => ?_)
  · replace hm := ite_t hc4 hm
    refine WP.seq ?_
    refine WP.region ?_
    refine WL.quiet (Runs.free rfl) rfl rfl (OV.quiet (ov_assign rfl rfl)) ?_
    refine WL.quiet (Runs.free rfl) rfl rfl (OV.quiet (ov_assign rfl rfl)) ?_
    refine WL.nil ?_
    refine then_normal ?_
    refine WP.ret ?_
    refine then_ret ?_
    obtain rfl := Option.some.inj hm
    refine retQ_ret Tryd.results46 (Res.tmp rfl (Res.tmp rfl Res.nil)) rfl (fun w' s => ⟨s.below, ?_⟩)
    exact rfl
  · replace hm := ite_f hc4 hm
    refine WP.skip ?_
    refine then_normal ?_
    refine WP.seq ?_
    refine WP.region ?_
    refine WL.quiet (Runs.free rfl) rfl rfl (OV.quiet (ov_assign rfl rfl)) ?_
    refine WL.nil ?_
    refine then_normal ?_
    obtain ⟨k1, hk1, hm⟩ := joinK_some hm
    refine WP.seq_join (fun g' S' => ∃ (i3 : Int), Sub [(4, (.int .i64 i3))] g' ∧ (∀ w', S' w' → St w H [] H w') ∧ k1 i3 = some r) ?_ ?_
    · skip
      refine WP.seq ?_
      refine WP.region ?_
      refine WL.quiet (Runs.free rfl) rfl rfl (OV.quiet (ov_assign rfl rfl)) ?_
      refine WL.nil ?_
      refine then_normal ?_
      refine WP.block ?_
      refine WP.loop (fun m1 g' S' => ∃ (i1 : Int) (i2 : Int), Sub [(0, (mkS p_s)), (4, (.int .i64 i1)), (5, (.int .i64 i2))] g' ∧ (∀ w', S' w' → St w H [] H w') ∧ ref03_Number_loop1 p_s k1 m1 i1 i2 = some r) ((Int.toNat ((p_s.length : Int) - 0) + 1)) ⟨0, 0, (Sub.cons rfl (Sub.cons rfl (Sub.cons rfl (Sub.nil _)))), fun w' s => s, hm⟩ ?_ ?_
      · rintro g' S' ⟨_, _, _, _, hm⟩
        exact none_some hm
      · rintro m1 g' S' ⟨i1, i2, hsub1, hS1, hm⟩
        refine WP.sub hsub1 (WP.weaken hS1 ?_)
        rw [ref03_Number_loop1] at hm
        refine WP.seq ?_
        refine WP.seq ?_
        refine WP.region ?_
        refine WL.quiet (Runs.free rfl) rfl rfl (OV.quiet (ov_move rfl rfl)) ?_
        refine WL.quiet (Runs.free rfl) rfl rfl (OV.quiet (ov_move rfl rfl)) ?_
        refine WL.quiet (Runs.free rfl) rfl rfl (OV.quiet (ov_len_string Tryd.underlying9 rfl rfl)) ?_
        refine WL.quiet (Runs.free rfl) rfl rfl (OV.quiet (ov_lss rfl rfl rfl)) ?_
        refine WL.nil ?_
        refine then_normal ?_
        refine WP.cond rfl (fun hc5 => ?_) (fun hc5 => ?_)
        · replace hm := ite_t hc5 hm
          refine WP.skip ?_
          refine then_normal ?_
          refine WP.seq ?_
          refine WP.block ?_
          refine WP.seq ?_
          refine WP.seq ?_
          refine WP.region ?_
          refine WL.quiet (Runs.free rfl) rfl rfl (OV.quiet (ov_move rfl rfl)) ?_
          refine WL.quiet (Runs.free rfl) rfl rfl (OV.quiet (ov_move rfl rfl)) ?_
          obtain ⟨b2, e4, hm⟩ := bind_some hm
          refine WL.quiet (Runs.free rfl) rfl rfl (OV.quiet (ov_index_string Tryd.underlying9 rfl rfl rfl e4)) ?_
          refine WL.quiet (Runs.free rfl) rfl rfl (OV.quiet (ov_lss rfl rfl rfl)) ?_
          refine WL.quiet (Runs.free rfl) rfl rfl (OV.quiet (ov_move rfl rfl)) ?_
          obtain ⟨c3, e5, hm⟩ := bind_some hm
          refine WL.cut_bool 5 38 (x := c3) ?_ ?_
          · rcases Bool.eq_false_or_eq_true (decide ((b2.toNat : Int) < 48)) with hc6 | hc6
            · skip
              replace hm := ite_t hc6 e5
              refine WL.idle (Idle.no rfl rfl rfl hc6) rfl rfl ?_
              refine WL.idle (Idle.no rfl rfl rfl hc6) rfl rfl ?_
              refine WL.idle (Idle.no rfl rfl rfl hc6) rfl rfl ?_
              refine WL.idle (Idle.no rfl rfl rfl hc6) rfl rfl ?_
              refine WL.quiet (Runs.free rfl) rfl rfl (OV.quiet (ov_pick_true rfl (guard_eq rfl hc6) rfl)) ?_
              exact WL.nil ⟨Sub.cons' rfl (congrArg Value.bool (Option.some.inj hm)) (Sub.skip rfl (Sub.skip rfl (Sub.skip rfl (Sub.skip rfl (Sub.skip rfl (Sub.refl _)))))), fun _ s => s⟩
            · skip
              replace hm := ite_f hc6 e5
              refine WL.quiet (Runs.yes rfl rfl rfl hc6) rfl rfl (OV.quiet (ov_move rfl rfl)) ?_
              refine WL.quiet (Runs.yes rfl rfl rfl hc6) rfl rfl (OV.quiet (ov_move rfl rfl)) ?_
              obtain ⟨b3, e6, hm⟩ := bind_some hm
              refine WL.quiet (Runs.yes rfl rfl rfl hc6) rfl rfl (OV.quiet (ov_index_string Tryd.underlying9 rfl rfl rfl e6)) ?_
              refine WL.quiet (Runs.yes rfl rfl rfl hc6) rfl rfl (OV.quiet (ov_gtr rfl rfl rfl)) ?_
              refine WL.quiet (Runs.free rfl) rfl rfl (OV.quiet (ov_pick_false rfl (guard_eq rfl hc6) rfl)) ?_
              exact WL.nil ⟨Sub.cons' rfl (congrArg Value.bool (Option.some.inj hm)) (Sub.skip rfl (Sub.skip rfl (Sub.skip rfl (Sub.skip rfl (Sub.skip rfl (Sub.refl _)))))), fun _ s => s⟩
          refine WL.nil ?_
          refine then_normal ?_
          refine WP.cond rfl (fun hc7 => ?_) (fun hc7 => ?_)
          · replace hm := ite_t hc7 hm
            refine WP.seq ?_
            refine WP.region ?_
            refine WL.quiet (Runs.free rfl) rfl rfl (OV.quiet (ov_assign rfl rfl)) ?_
            refine WL.quiet (Runs.free rfl) rfl rfl (OV.quiet (ov_assign rfl rfl)) ?_
            refine WL.nil ?_
            refine then_normal ?_
            refine WP.ret ?_
            refine then_ret ?_
            refine block_ret ?_
            refine then_ret ?_
            refine then_ret ?_
            refine block_ret ?_
            refine then_ret ?_
            obtain rfl := Option.some.inj hm
            refine retQ_ret Tryd.results46 (Res.tmp rfl (Res.tmp rfl Res.nil)) rfl (fun w' s => ⟨s.below, ?_⟩)
            exact rfl
          · replace hm := ite_f hc7 hm
            refine WP.skip ?_
            refine then_normal ?_
            refine WP.region ?_
            refine WL.quiet (Runs.free rfl) rfl rfl (OV.quiet (ov_move rfl rfl)) ?_
            refine WL.quiet (Runs.free rfl) rfl rfl (OV.quiet (ov_mul rfl rfl rfl)) ?_
            refine WL.quiet (Runs.free rfl) rfl rfl (OV.quiet (ov_move rfl rfl)) ?_
            refine WL.quiet (Runs.free rfl) rfl rfl (OV.quiet (ov_move rfl rfl)) ?_
            obtain ⟨b4, e7, hm⟩ := bind_some hm
            refine WL.quiet (Runs.free rfl) rfl rfl (OV.quiet (ov_index_string Tryd.underlying9 rfl rfl rfl e7)) ?_
            refine WL.quiet (Runs.free rfl) rfl rfl (OV.quiet (ov_sub rfl rfl rfl)) ?_
            refine WL.quiet (Runs.free rfl) rfl rfl (OV.quiet (ov_convert_int Tryd.underlying5 Tryd.underlying3 rfl rfl)) ?_
            refine WL.quiet (Runs.free rfl) rfl rfl (OV.quiet (ov_add rfl rfl rfl)) ?_
            refine WL.quiet (Runs.free rfl) rfl rfl (OV.quiet (ov_assign rfl rfl)) ?_
            refine WL.nil ?_
            refine block_normal ?_
            refine then_normal ?_
            refine WP.region ?_
            refine WL.quiet (Runs.free rfl) rfl rfl (OV.quiet (ov_move rfl rfl)) ?_
            refine WL.quiet (Runs.free rfl) rfl rfl (OV.quiet (ov_add rfl rfl rfl)) ?_
            refine WL.quiet (Runs.free rfl) rfl rfl (OV.quiet (ov_assign rfl rfl)) ?_
            refine WL.nil ?_
            refine then_normal ?_
            exact ⟨(IntKind.wrap .i64 ((IntKind.wrap .i64 (10 * i1)) + (IntKind.wrap .i64 (IntKind.wrap .u8 ((b4.toNat : Int) - 48))))), (IntKind.wrap .i64 (i2 + 1)), (Sub.cons rfl (Sub.cons rfl (Sub.cons rfl (Sub.nil _)))), fun w' s => s, hm⟩
        · replace hm := ite_f hc5 hm
          refine WP.exit ?_
          refine then_exit ?_
          refine then_exit ?_
          refine block_here ?_
          refine then_normal ?_
          exact ⟨i1, (Sub.cons rfl (Sub.nil _)), fun w' s => s, hm⟩
    · rintro g' S' ⟨i3, hsub2, hS2, hm⟩
      refine WP.sub hsub2 (WP.weaken hS2 ?_)
      replace hm := (congrFun hk1 i3).symm.trans hm
      refine WP.seq ?_
      refine WP.region ?_
      refine WL.quiet (Runs.free rfl) rfl rfl (OV.quiet (ov_move rfl rfl)) ?_
      refine WL.quiet (Runs.free rfl) rfl rfl (OV.quiet (ov_assign rfl rfl)) ?_
      refine WL.quiet (Runs.free rfl) rfl rfl (OV.quiet (ov_assign rfl rfl)) ?_
      refine WL.nil ?_
      refine then_normal ?_
      refine WP.ret ?_
      obtain rfl := Option.some.inj hm
      refine retQ_ret Tryd.results46 (Res.tmp rfl (Res.tmp rfl Res.nil)) rfl (fun w' s => ⟨s.below, ?_⟩)
      exact rfl

theorem ref03_Parse_con (p_s : (List UInt8)) (w : World) (H : Heap) (hH : Le H (hp w)) (hG : Glob H) (r : (Span × Int)) (hm : ref03_Parse p_s = some r) :
    Con Tryd.prog 15 [(mkS p_s)] w H (fun v _ => v = (.tuple #[(.agg #[(.int .i64 r.1.low), (.int .i64 r.1.high)]), (.int .i64 r.2)])) := by
  unfold ref03_Parse at hm
  refine con_of hH Tryd.func15 rfl 67 Tryd.ntmps15 rfl ?_
  refine WP.seq ?_
  refine WP.region ?_
  refine WL.step (Runs.free rfl) rfl rfl (os_alloc (cs := [(.int .i64 0), (.int .i64 0)]) Tryd.zeroValue23 rfl rfl (fun b1 => ?_))
  refine WL.quiet (Runs.free rfl) rfl rfl (OV.quiet (ov_assign rfl rfl)) ?_
  refine WL.nil ?_
  refine then_normal ?_
  refine WP.seq ?_
  refine WP.region ?_
  refine WL.quiet (Runs.free rfl) rfl rfl (OV.quiet (ov_move rfl rfl)) ?_
  obtain ⟨r1, e1, hm⟩ := bind_some hm
  refine WL.quiet (Runs.free rfl) rfl rfl (oq_con (r := (.int .i64 r1)) Tryd.call45 rfl rfl (fun w' s => ⟨_, (ref03_dots_con p_s  w' H s.hold hG r1 e1)⟩)) ?_
  refine WL.quiet (Runs.free rfl) rfl rfl (OV.quiet (ov_assign rfl rfl)) ?_
  refine WL.nil ?_
  refine then_normal ?_
  refine WP.seq ?_
  refine WP.region ?_
  refine WL.quiet (Runs.free rfl) rfl rfl (OV.quiet (ov_move rfl rfl)) ?_
  refine WL.quiet (Runs.free rfl) rfl rfl (OV.quiet (ov_move rfl rfl)) ?_
  obtain ⟨s1, e2, hm⟩ := bind_some hm
  refine WL.quiet (Runs.free rfl) rfl rfl (OV.quiet (ov_slice_string_to Tryd.underlying9 rfl rfl rfl e2)) ?_
  obtain ⟨r2, e3, hm⟩ := bind_some hm
  refine WL.quiet (Runs.free rfl) rfl rfl (oq_con (r := (.tuple #[(.int .i64 r2.1), (.bool r2.2)])) Tryd.call46 rfl rfl (fun w' s => ⟨_, (ref03_Number_con s1  w' H s.hold hG r2 e3)⟩)) ?_
  refine WL.quiet (Runs.free rfl) rfl rfl (OV.quiet (ov_move rfl rfl)) ?_
  refine WL.quiet (Runs.free rfl) rfl rfl (OV.quiet (ov_extract rfl rfl rfl)) ?_
  refine WL.quiet (Runs.free rfl) rfl rfl (OV.quiet (ov_extract rfl rfl rfl)) ?_
  refine WL.quiet (Runs.free rfl) rfl rfl (OV.quiet (ov_assign rfl rfl)) ?_
  refine WL.quiet (Runs.free rfl) rfl rfl (OV.quiet (ov_assign rfl rfl)) ?_
  refine WL.nil ?_
  refine then_normal ?_
  refine WP.seq ?_
  refine WP.region ?_
  refine WL.quiet (Runs.free rfl) rfl rfl (OV.quiet (ov_move rfl rfl)) ?_
  refine WL.quiet (Runs.free rfl) rfl rfl (OV.quiet (ov_assign rfl rfl)) ?_
  refine WL.quiet (Runs.free rfl) rfl rfl (OV.quiet (ov_assign rfl rfl)) ?_
  refine WL.nil ?_
  refine then_normal ?_
  obtain ⟨k1, hk1, hm⟩ := joinK_some hm
  refine WP.seq_join (fun g' S' => ∃ (i1 : Int) (c1 : Bool), Sub [(0, (mkS p_s)), (2, (pB b1 0)), (4, (.int .i64 r1)), (5, (.int .i64 r2.1)), (6, (.bool r2.2)), (7, (.int .i64 i1)), (8, (.bool c1))] g' ∧ (∀ w', S' w' → St w H [.blk b1 23 [(.int .i64 0), (.int .i64 0)]] H w') ∧ k1 i1 c1 = some r) ?_ ?_
  · skip
    refine WP.seq ?_
    refine WP.region ?_
    refine WL.quiet (Runs.free rfl) rfl rfl (OV.quiet (ov_move rfl rfl)) ?_
    refine WL.quiet (Runs.free rfl) rfl rfl (OV.quiet (ov_move rfl rfl)) ?_
    refine WL.quiet (Runs.free rfl) rfl rfl (OV.quiet (ov_len_string Tryd.underlying9 rfl rfl)) ?_
    refine WL.quiet (Runs.free rfl) rfl rfl (OV.quiet (ov_lss rfl rfl rfl)) ?_
    refine WL.nil ?_
    refine then_normal ?_
    refine WP.cond rfl (fun hc1 => ?_) (fun hc1 => ?_)
    · replace hm := ite_t hc1 hm
      refine WP.region ?_
      refine WL.quiet (Runs.free rfl) rfl rfl (OV.quiet (ov_move rfl rfl)) ?_
      refine WL.quiet (Runs.free rfl) rfl rfl (OV.quiet (ov_move rfl rfl)) ?_
      refine WL.quiet (Runs.free rfl) rfl rfl (OV.quiet (ov_add rfl rfl rfl)) ?_
      obtain ⟨s2, e4, hm⟩ := bind_some hm
      refine WL.quiet (Runs.free rfl) rfl rfl (OV.quiet (ov_slice_string_from Tryd.underlying9 rfl rfl rfl e4)) ?_
      obtain ⟨r3, e5, hm⟩ := bind_some hm
      refine WL.quiet (Runs.free rfl) rfl rfl (oq_con (r := (.tuple #[(.int .i64 r3.1), (.bool r3.2)])) Tryd.call46 rfl rfl (fun w' s => ⟨_, (ref03_Number_con s2  w' H s.hold hG r3 e5)⟩)) ?_
      refine WL.quiet (Runs.free rfl) rfl rfl (OV.quiet (ov_move rfl rfl)) ?_
      refine WL.quiet (Runs.free rfl) rfl rfl (OV.quiet (ov_extract rfl rfl rfl)) ?_
      refine WL.quiet (Runs.free rfl) rfl rfl (OV.quiet (ov_extract rfl rfl rfl)) ?_
      refine WL.quiet (Runs.free rfl) rfl rfl (OV.quiet (ov_assign rfl rfl)) ?_
      refine WL.quiet (Runs.free rfl) rfl rfl (OV.quiet (ov_assign rfl rfl)) ?_
      refine WL.nil ?_
      refine then_normal ?_
      exact ⟨r3.1, r3.2, (Sub.cons rfl (Sub.cons rfl (Sub.cons rfl (Sub.cons rfl (Sub.cons rfl (Sub.cons rfl (Sub.cons rfl (Sub.nil _)))))))), fun w' s => s, hm⟩
    · replace hm := ite_f hc1 hm
      refine WP.skip ?_
      refine then_normal ?_
      exact ⟨r2.1, true, (Sub.cons rfl (Sub.cons rfl (Sub.cons rfl (Sub.cons rfl (Sub.cons rfl (Sub.cons rfl (Sub.cons rfl (Sub.nil _)))))))), fun w' s => s, hm⟩
  · rintro g' S' ⟨i1, c1, hsub1, hS1, hm⟩
    refine WP.sub hsub1 (WP.weaken hS1 ?_)
    replace hm := (congrFun (congrFun hk1 i1) c1).symm.trans hm
    refine WP.seq ?_
    refine WP.seq ?_
    refine WP.region ?_
    refine WL.quiet (Runs.free rfl) rfl rfl (OV.quiet (ov_move rfl rfl)) ?_
    refine WL.quiet (Runs.free rfl) rfl rfl (OV.quiet (ov_len_string Tryd.underlying9 rfl rfl)) ?_
    refine WL.quiet (Runs.free rfl) rfl rfl (OV.quiet (ov_gtr rfl rfl rfl)) ?_
    refine WL.quiet (Runs.free rfl) rfl rfl (OV.quiet (ov_move rfl rfl)) ?_
    refine WL.cut_bool 3 39 (x := ((decide ((p_s.length : Int) > 24)) || (!r2.2))) ?_ ?_
    · rcases Bool.eq_false_or_eq_true (decide ((p_s.length : Int) > 24)) with hc2 | hc2
      · skip
        refine WL.idle (Idle.no rfl rfl rfl hc2) rfl rfl ?_
        refine WL.idle (Idle.no rfl rfl rfl hc2) rfl rfl ?_
        refine WL.quiet (Runs.free rfl) rfl rfl (OV.quiet (ov_pick_true rfl (guard_eq rfl hc2) rfl)) ?_
        exact WL.nil ⟨Sub.cons' rfl (congrArg Value.bool (by rw [hc2]; rfl)) (Sub.skip rfl (Sub.skip rfl (Sub.skip rfl (Sub.refl _)))), fun _ s => s⟩
      · skip
        refine WL.quiet (Runs.yes rfl rfl rfl hc2) rfl rfl (OV.quiet (ov_move rfl rfl)) ?_
        refine WL.quiet (Runs.yes rfl rfl rfl hc2) rfl rfl (OV.quiet (ov_not rfl rfl)) ?_
        refine WL.quiet (Runs.free rfl) rfl rfl (OV.quiet (ov_pick_false rfl (guard_eq rfl hc2) rfl)) ?_
        exact WL.nil ⟨Sub.cons' rfl (congrArg Value.bool (by rw [hc2]; rfl)) (Sub.skip rfl (Sub.skip rfl (Sub.skip rfl (Sub.refl _)))), fun _ s => s⟩
    refine WL.quiet (Runs.free rfl) rfl rfl (OV.quiet (ov_move rfl rfl)) ?_
    refine WL.cut_bool 3 43 (x := (((decide ((p_s.length : Int) > 24)) || (!r2.2)) || (!c1))) ?_ ?_
    · rcases Bool.eq_false_or_eq_true ((decide ((p_s.length : Int) > 24)) || (!r2.2)) with hc3 | hc3
      · skip
        refine WL.idle (Idle.no rfl rfl rfl hc3) rfl rfl ?_
        refine WL.idle (Idle.no rfl rfl rfl hc3) rfl rfl ?_
        refine WL.quiet (Runs.free rfl) rfl rfl (OV.quiet (ov_pick_true rfl (guard_eq rfl hc3) rfl)) ?_
        exact WL.nil ⟨Sub.cons' rfl (congrArg Value.bool (by rw [hc3]; rfl)) (Sub.skip rfl (Sub.skip rfl (Sub.skip rfl (Sub.refl _)))), fun _ s => s⟩
      · skip
        refine WL.quiet (Runs.yes rfl rfl rfl hc3) rfl rfl (OV.quiet (ov_move rfl rfl)) ?_
        refine WL.quiet (Runs.yes rfl rfl rfl hc3) rfl rfl (OV.quiet (ov_not rfl rfl)) ?_
        refine WL.quiet (Runs.free rfl) rfl rfl (OV.quiet (ov_pick_false rfl (guard_eq rfl hc3) rfl)) ?_
        exact WL.nil ⟨Sub.cons' rfl (congrArg Value.bool (by rw [hc3]; rfl)) (Sub.skip rfl (Sub.skip rfl (Sub.skip rfl (Sub.refl _)))), fun _ s => s⟩
    refine WL.nil ?_
    refine then_normal ?_
    refine WP.cond rfl (fun hc4 => ?_) (fun hc4 => ?_)
    · replace hm := ite_t hc4 hm
      refine WP.seq ?_
      refine WP.region ?_
      refine WL.quiet (Runs.free rfl) rfl rfl (OV.quiet (ov_build (r := (.agg #[(.int .i64 0), (.int .i64 0)])) rfl rfl (fun _ => by kernel_rfl))) ?_
      refine WL.step0 (Runs.free rfl) rfl (os_store (i := 0) (vs := [(.int .i64 0), (.int .i64 0)]) (cs' := [(.int .i64 0), (.int .i64 0)]) Tryd.sizeOf23 rfl rfl rfl rfl rfl rfl rfl rfl rfl ?_)
      refine WL.quiet (Runs.free rfl) rfl rfl (OV.quiet (ov_assign rfl rfl)) ?_
      refine WL.nil ?_
      refine then_normal ?_
      refine WP.ret ?_
      refine then_ret ?_
      obtain rfl := Option.some.inj hm
      refine retQ_ret Tryd.results15 (Res.cell rfl (box_loads (i := 0) Tryd.isAgg23 Tryd.sizeOf23 rfl rfl) (Res.tmp rfl Res.nil)) rfl (fun w' s => ⟨s.below, ?_⟩)
      exact rfl
    · replace hm := ite_f hc4 hm
      refine WP.skip ?_
      refine then_normal ?_
      refine WP.seq ?_
      refine WP.region ?_
      refine WL.quiet (Runs.free rfl) rfl rfl (OV.quiet (ov_move rfl rfl)) ?_
      refine WL.quiet (Runs.free rfl) rfl rfl (OV.quiet (ov_move rfl rfl)) ?_
      obtain ⟨r4, e6, hm⟩ := bind_some hm
      refine WL.quiet (Runs.free rfl) rfl rfl (oq_con (r := (.tuple #[(.agg #[(.int .i64 r4.1.low), (.int .i64 r4.1.high)]), (.int .i64 r4.2)])) Tryd.call33 rfl rfl (fun w' s => ⟨_, (ref03_Of_con r2.1 i1  w' H s.hold hG r4 e6)⟩)) ?_
      refine WL.quiet (Runs.free rfl) rfl rfl (OV.quiet (ov_move rfl rfl)) ?_
      refine WL.quiet (Runs.free rfl) rfl rfl (OV.quiet (ov_extract rfl rfl rfl)) ?_
      refine WL.quiet (Runs.free rfl) rfl rfl (OV.quiet (ov_extract rfl rfl rfl)) ?_
      refine WL.step (Runs.free rfl) rfl rfl (os_alloc (cs := [(.int .i64 0), (.int .i64 0)]) Tryd.zeroValue23 rfl rfl (fun b2 => ?_))
      refine WL.step0 (Runs.free rfl) rfl (os_store (i := 0) (vs := [(.int .i64 r4.1.low), (.int .i64 r4.1.high)]) (cs' := [(.int .i64 r4.1.low), (.int .i64 r4.1.high)]) Tryd.sizeOf23 rfl rfl rfl rfl rfl rfl rfl rfl rfl ?_)
      refine WL.quiet (Runs.free rfl) rfl rfl (OV.quiet (ov_assign rfl rfl)) ?_
      refine WL.nil ?_
      refine then_normal ?_
      refine WP.seq ?_
      refine WP.seq ?_
      refine WP.region ?_
      refine WL.quiet (Runs.free rfl) rfl rfl (OV.quiet (ov_move rfl rfl)) ?_
      refine WL.quiet (Runs.free rfl) rfl rfl (OV.quiet (ov_eql rfl rfl rfl)) ?_
      refine WL.quiet (Runs.free rfl) rfl rfl (OV.quiet (ov_move rfl rfl)) ?_
      refine WL.cut_bool 5 58 (x := ((r4.2 == 0) && (decide (r1 < (p_s.length : Int))))) ?_ ?_
      · rcases Bool.eq_false_or_eq_true (r4.2 == 0) with hc5 | hc5
        · skip
          refine WL.quiet (Runs.yes rfl rfl rfl hc5) rfl rfl (OV.quiet (ov_move rfl rfl)) ?_
          refine WL.quiet (Runs.yes rfl rfl rfl hc5) rfl rfl (OV.quiet (ov_move rfl rfl)) ?_
          refine WL.quiet (Runs.yes rfl rfl rfl hc5) rfl rfl (OV.quiet (ov_len_string Tryd.underlying9 rfl rfl)) ?_
          refine WL.quiet (Runs.yes rfl rfl rfl hc5) rfl rfl (OV.quiet (ov_lss rfl rfl rfl)) ?_
          refine WL.quiet (Runs.free rfl) rfl rfl (OV.quiet (ov_pick_true rfl (guard_eq rfl hc5) rfl)) ?_
          exact WL.nil ⟨Sub.cons' rfl (congrArg Value.bool (by rw [hc5]; rfl)) (Sub.skip rfl (Sub.skip rfl (Sub.skip rfl (Sub.skip rfl (Sub.skip rfl (Sub.refl _)))))), fun _ s => s⟩
        · skip
          refine WL.idle (Idle.no rfl rfl rfl hc5) rfl rfl ?_
          refine WL.idle (Idle.no rfl rfl rfl hc5) rfl rfl ?_
          refine WL.idle (Idle.no rfl rfl rfl hc5) rfl rfl ?_
          refine WL.idle (Idle.no rfl rfl rfl hc5) rfl rfl ?_
          refine WL.quiet (Runs.free rfl) rfl rfl (OV.quiet (ov_pick_false rfl (guard_eq rfl hc5) rfl)) ?_
          exact WL.nil ⟨Sub.cons' rfl (congrArg Value.bool (by rw [hc5]; rfl)) (Sub.skip rfl (Sub.skip rfl (Sub.skip rfl (Sub.skip rfl (Sub.skip rfl (Sub.refl _)))))), fun _ s => s⟩
      refine WL.quiet (Runs.free rfl) rfl rfl (OV.quiet (ov_move rfl rfl)) ?_
      refine WL.cut_bool 4 63 (x := (((r4.2 == 0) && (decide (r1 < (p_s.length : Int)))) && (r2.1 == i1))) ?_ ?_
      · rcases Bool.eq_false_or_eq_true ((r4.2 == 0) && (decide (r1 < (p_s.length : Int)))) with hc6 | hc6
        · skip
          refine WL.quiet (Runs.yes rfl rfl rfl hc6) rfl rfl (OV.quiet (ov_move rfl rfl)) ?_
          refine WL.quiet (Runs.yes rfl rfl rfl hc6) rfl rfl (OV.quiet (ov_move rfl rfl)) ?_
          refine WL.quiet (Runs.yes rfl rfl rfl hc6) rfl rfl (OV.quiet (ov_eql rfl rfl rfl)) ?_
          refine WL.quiet (Runs.free rfl) rfl rfl (OV.quiet (ov_pick_true rfl (guard_eq rfl hc6) rfl)) ?_
          exact WL.nil ⟨Sub.cons' rfl (congrArg Value.bool (by rw [hc6]; rfl)) (Sub.skip rfl (Sub.skip rfl (Sub.skip rfl (Sub.skip rfl (Sub.refl _))))), fun _ s => s⟩
        · skip
          refine WL.idle (Idle.no rfl rfl rfl hc6) rfl rfl ?_
          refine WL.idle (Idle.no rfl rfl rfl hc6) rfl rfl ?_
          refine WL.idle (Idle.no rfl rfl rfl hc6) rfl rfl ?_
          refine WL.quiet (Runs.free rfl) rfl rfl (OV.quiet (ov_pick_false rfl (guard_eq rfl hc6) rfl)) ?_
          exact WL.nil ⟨Sub.cons' rfl (congrArg Value.bool (by rw [hc6]; rfl)) (Sub.skip rfl (Sub.skip rfl (Sub.skip rfl (Sub.skip rfl (Sub.refl _))))), fun _ s => s⟩
      refine WL.nil ?_
      refine then_normal ?_
      refine WP.cond rfl (fun hc7 => ?_) (fun hc7 => ?_)
      · replace hm := ite_t hc7 hm
        refine WP.seq ?_
        refine WP.region ?_
        refine WL.quiet (Runs.free rfl) rfl rfl (OV.quiet (ov_build (r := (.agg #[(.int .i64 0), (.int .i64 0)])) rfl rfl (fun _ => by kernel_rfl))) ?_
        refine WL.step0 (Runs.free rfl) rfl (os_store (i := 1) (vs := [(.int .i64 0), (.int .i64 0)]) (cs' := [(.int .i64 0), (.int .i64 0)]) Tryd.sizeOf23 rfl rfl rfl rfl rfl rfl rfl rfl rfl ?_)
        refine WL.quiet (Runs.free rfl) rfl rfl (OV.quiet (ov_assign rfl rfl)) ?_
        refine WL.nil ?_
        refine then_normal ?_
        refine WP.ret ?_
        refine then_ret ?_
        obtain rfl := Option.some.inj hm
        refine retQ_ret Tryd.results15 (Res.cell rfl (box_loads (i := 1) Tryd.isAgg23 Tryd.sizeOf23 rfl rfl) (Res.tmp rfl Res.nil)) rfl (fun w' s => ⟨s.below, ?_⟩)
        exact rfl
      · replace hm := ite_f hc7 hm
        refine WP.skip ?_
        refine then_normal ?_
        refine WP.seq ?_
        refine WP.region ?_
        refine WL.quiet (Runs.free rfl) rfl rfl (OV.quiet (ov_load_whole (i := 0) Tryd.isAgg23 Tryd.sizeOf23 rfl rfl rfl rfl)) ?_
        refine WL.quiet (Runs.free rfl) rfl rfl (OV.quiet (ov_move rfl rfl)) ?_
        refine WL.step0 (Runs.free rfl) rfl (os_store (i := 1) (vs := [(.int .i64 r4.1.low), (.int .i64 r4.1.high)]) (cs' := [(.int .i64 r4.1.low), (.int .i64 r4.1.high)]) Tryd.sizeOf23 rfl rfl rfl rfl rfl rfl rfl rfl rfl ?_)
        refine WL.quiet (Runs.free rfl) rfl rfl (OV.quiet (ov_assign rfl rfl)) ?_
        refine WL.nil ?_
        refine then_normal ?_
        refine WP.ret ?_
        obtain rfl := Option.some.inj hm
        refine retQ_ret Tryd.results15 (Res.cell rfl (box_loads (i := 1) Tryd.isAgg23 Tryd.sizeOf23 rfl rfl) (Res.tmp rfl Res.nil)) rfl (fun w' s => ⟨s.below, ?_⟩)
        exact rfl

theorem ref03_both_con (p_a : Span) (p_b : Span) (w : World) (H : Heap) (hH : Le H (hp w)) (hG : Glob H) (r : Int) (hm : ref03_both p_a p_b = some r) :
    Con Tryd.prog 52 [(.agg #[(.int .i64 p_a.low), (.int .i64 p_a.high)]), (.agg #[(.int .i64 p_b.low), (.int .i64 p_b.high)])] w H (fun v _ => v = (.int .i64 r)) := by
  unfold ref03_both at hm
  refine con_of hH Tryd.func52 rfl 13 Tryd.ntmps52 rfl ?_
  refine WP.seq ?_
  refine WP.region ?_
  refine WL.step (Runs.free rfl) rfl rfl (os_box (cs := [(.int .i64 p_a.low), (.int .i64 p_a.high)]) rfl rfl rfl (fun b1 => ?_))
  refine WL.step (Runs.free rfl) rfl rfl (os_box (cs := [(.int .i64 p_b.low), (.int .i64 p_b.high)]) rfl rfl rfl (fun b2 => ?_))
  refine WL.quiet (Runs.free rfl) rfl rfl (OV.quiet (ov_assign rfl rfl)) ?_
  refine WL.nil ?_
  refine then_normal ?_
  refine WP.seq ?_
  refine WP.seq ?_
  refine WP.region ?_
  refine WL.quiet (Runs.free rfl) rfl rfl (OV.quiet (ov_load_whole (i := 1) Tryd.isAgg23 Tryd.sizeOf23 rfl rfl rfl rfl)) ?_
  obtain ⟨r1, e1, hm⟩ := bind_some hm
  refine WL.quiet (Runs.free rfl) rfl rfl (oq_con (r := (.int .i64 r1)) Tryd.call21 rfl rfl (fun w' s => ⟨_, (ref03_Check_con p_a  w' H s.hold hG r1 e1)⟩)) ?_
  refine WL.quiet (Runs.free rfl) rfl rfl (OV.quiet (ov_assign rfl rfl)) ?_
  refine WL.nil ?_
  refine then_normal ?_
  refine WP.seq ?_
  refine WP.region ?_
  refine WL.quiet (Runs.free rfl) rfl rfl (OV.quiet (ov_move rfl rfl)) ?_
  refine WL.quiet (Runs.free rfl) rfl rfl (OV.quiet (ov_neq rfl rfl rfl)) ?_
  refine WL.nil ?_
  refine then_normal ?_
  refine WP.cond rfl (fun hc1 => ?_) (fun hc1 => ?_)
  · replace hm := ite_t hc1 hm
    refine WP.seq ?_
    refine WP.region ?_
    refine WL.quiet (Runs.free rfl) rfl rfl (OV.quiet (ov_move rfl rfl)) ?_
    refine WL.quiet (Runs.free rfl) rfl rfl (OV.quiet (ov_assign rfl rfl)) ?_
    refine WL.nil ?_
    refine then_normal ?_
    refine WP.ret ?_
    refine then_ret ?_
    obtain rfl := Option.some.inj hm
    refine retQ_ret Tryd.results52 (Res.tmp rfl Res.nil) rfl (fun w' s => ⟨s.below, ?_⟩)
    exact rfl
  · replace hm := ite_f hc1 hm
    refine WP.skip ?_
    refine then_normal ?_
    refine WP.seq ?_
    refine WP.region ?_
    refine WL.quiet (Runs.free rfl) rfl rfl (OV.quiet (ov_load_whole (i := 0) Tryd.isAgg23 Tryd.sizeOf23 rfl rfl rfl rfl)) ?_
    obtain ⟨r2, e2, hm⟩ := bind_some hm
    refine WL.quiet (Runs.free rfl) rfl rfl (oq_con (r := (.int .i64 r2)) Tryd.call21 rfl rfl (fun w' s => ⟨_, (ref03_Check_con p_b  w' H s.hold hG r2 e2)⟩)) ?_
    refine WL.quiet (Runs.free rfl) rfl rfl (OV.quiet (ov_assign rfl rfl)) ?_
    refine WL.nil ?_
    refine then_normal ?_
    refine WP.ret ?_
    obtain rfl := Option.some.inj hm
    refine retQ_ret Tryd.results52 (Res.tmp rfl Res.nil) rfl (fun w' s => ⟨s.below, ?_⟩)
    exact rfl

theorem ref03_limited_con (p_a : Span) (w : World) (H : Heap) (hH : Le H (hp w)) (hG : Glob H) (r : (Span × Int)) (hm : ref03_limited p_a = some r) :
    Con Tryd.prog 56 [(.agg #[(.int .i64 p_a.low), (.int .i64 p_a.high)])] w H (fun v _ => v = (.tuple #[(.agg #[(.int .i64 r.1.low), (.int .i64 r.1.high)]), (.int .i64 r.2)])) := by
  unfold ref03_limited at hm
  refine con_of hH Tryd.func56 rfl 9 Tryd.ntmps56 rfl ?_
  refine WP.seq ?_
  refine WP.region ?_
  refine WL.step (Runs.free rfl) rfl rfl (os_box (cs := [(.int .i64 p_a.low), (.int .i64 p_a.high)]) rfl rfl rfl (fun b1 => ?_))
  refine WL.step (Runs.free rfl) rfl rfl (os_alloc (cs := [(.int .i64 0), (.int .i64 0)]) Tryd.zeroValue23 rfl rfl (fun b2 => ?_))
  refine WL.quiet (Runs.free rfl) rfl rfl (OV.quiet (ov_assign rfl rfl)) ?_
  refine WL.nil ?_
  refine then_normal ?_
  refine WP.seq ?_
  refine WP.seq ?_
  refine WP.region ?_
  refine WL.quiet (Runs.free rfl) rfl rfl (OV.quiet (ov_fieldAddr Tryd.underlying23 rfl rfl rfl Tryd.sizeOf3 rfl rfl)) ?_
  refine WL.quiet (Runs.free rfl) rfl rfl (OV.quiet (ov_load_box (i := 1) Tryd.isAgg3 rfl rfl rfl rfl)) ?_
  refine WL.quiet (Runs.free rfl) rfl rfl (OV.quiet (ov_gtr rfl rfl rfl)) ?_
  refine WL.nil ?_
  refine then_normal ?_
  refine WP.cond rfl (fun hc1 => ?_) (fun hc1 => ?_)
  · replace hm := ite_t hc1 hm
    refine WP.seq ?_
    refine WP.region ?_
    refine WL.quiet (Runs.free rfl) rfl rfl (OV.quiet (ov_build (r := (.agg #[(.int .i64 0), (.int .i64 0)])) rfl rfl (fun _ => by kernel_rfl))) ?_
    refine WL.step0 (Runs.free rfl) rfl (os_store (i := 0) (vs := [(.int .i64 0), (.int .i64 0)]) (cs' := [(.int .i64 0), (.int .i64 0)]) Tryd.sizeOf23 rfl rfl rfl rfl rfl rfl rfl rfl rfl ?_)
    refine WL.quiet (Runs.free rfl) rfl rfl (OV.quiet (ov_assign rfl rfl)) ?_
    refine WL.nil ?_
    refine then_normal ?_
    refine WP.ret ?_
    refine then_ret ?_
    obtain rfl := Option.some.inj hm
    refine retQ_ret Tryd.results56 (Res.cell rfl (box_loads (i := 0) Tryd.isAgg23 Tryd.sizeOf23 rfl rfl) (Res.tmp rfl Res.nil)) rfl (fun w' s => ⟨s.below, ?_⟩)
    exact rfl
  · replace hm := ite_f hc1 hm
    refine WP.skip ?_
    refine then_normal ?_
    refine WP.seq ?_
    refine WP.region ?_
    refine WL.quiet (Runs.free rfl) rfl rfl (OV.quiet (ov_load_whole (i := 1) Tryd.isAgg23 Tryd.sizeOf23 rfl rfl rfl rfl)) ?_
    refine WL.step0 (Runs.free rfl) rfl (os_store (i := 0) (vs := [(.int .i64 p_a.low), (.int .i64 p_a.high)]) (cs' := [(.int .i64 p_a.low), (.int .i64 p_a.high)]) Tryd.sizeOf23 rfl rfl rfl rfl rfl rfl rfl rfl rfl ?_)
    refine WL.quiet (Runs.free rfl) rfl rfl (OV.quiet (ov_assign rfl rfl)) ?_
    refine WL.nil ?_
    refine then_normal ?_
    refine WP.ret ?_
    obtain rfl := Option.some.inj hm
    refine retQ_ret Tryd.results56 (Res.cell rfl (box_loads (i := 0) Tryd.isAgg23 Tryd.sizeOf23 rfl rfl) (Res.tmp rfl Res.nil)) rfl (fun w' s => ⟨s.below, ?_⟩)
    exact rfl

theorem ref03_Plus_con (p_a : Span) (p_b : Span) (w : World) (H : Heap) (hH : Le H (hp w)) (hG : Glob H) (r : Span) (hm : ref03_Plus p_a p_b = some r) :
    Con Tryd.prog 57 [(.agg #[(.int .i64 p_a.low), (.int .i64 p_a.high)]), (.agg #[(.int .i64 p_b.low), (.int .i64 p_b.high)])] w H (fun v _ => v = (.agg #[(.int .i64 r.low), (.int .i64 r.high)])) := by
  unfold ref03_Plus at hm
  refine con_of hH Tryd.func57 rfl 16 Tryd.ntmps57 rfl ?_
  refine WP.seq ?_
  refine WP.region ?_
  refine WL.step (Runs.free rfl) rfl rfl (os_box (cs := [(.int .i64 p_a.low), (.int .i64 p_a.high)]) rfl rfl rfl (fun b1 => ?_))
  refine WL.step (Runs.free rfl) rfl rfl (os_box (cs := [(.int .i64 p_b.low), (.int .i64 p_b.high)]) rfl rfl rfl (fun b2 => ?_))
  refine WL.step (Runs.free rfl) rfl rfl (os_alloc (cs := [(.int .i64 0), (.int .i64 0)]) Tryd.zeroValue23 rfl rfl (fun b3 => ?_))
  refine WL.nil ?_
  refine then_normal ?_
  refine WP.seq ?_
  refine WP.region ?_
  refine WL.quiet (Runs.free rfl) rfl rfl (OV.quiet (ov_fieldAddr Tryd.underlying23 rfl rfl rfl Tryd.sizeOf3 rfl rfl)) ?_
  refine WL.quiet (Runs.free rfl) rfl rfl (OV.quiet (ov_load_box (i := 2) Tryd.isAgg3 rfl rfl rfl rfl)) ?_
  refine WL.quiet (Runs.free rfl) rfl rfl (OV.quiet (ov_fieldAddr Tryd.underlying23 rfl rfl rfl Tryd.sizeOf3 rfl rfl)) ?_
  refine WL.quiet (Runs.free rfl) rfl rfl (OV.quiet (ov_load_box (i := 1) Tryd.isAgg3 rfl rfl rfl rfl)) ?_
  refine WL.quiet (Runs.free rfl) rfl rfl (OV.quiet (ov_add rfl rfl rfl)) ?_
  refine WL.quiet (Runs.free rfl) rfl rfl (OV.quiet (ov_fieldAddr Tryd.underlying23 rfl rfl rfl Tryd.sizeOf3 rfl rfl)) ?_
  refine WL.quiet (Runs.free rfl) rfl rfl (OV.quiet (ov_load_box (i := 2) Tryd.isAgg3 rfl rfl rfl rfl)) ?_
  refine WL.quiet (Runs.free rfl) rfl rfl (OV.quiet (ov_fieldAddr Tryd.underlying23 rfl rfl rfl Tryd.sizeOf3 rfl rfl)) ?_
  refine WL.quiet (Runs.free rfl) rfl rfl (OV.quiet (ov_load_box (i := 1) Tryd.isAgg3 rfl rfl rfl rfl)) ?_
  refine WL.quiet (Runs.free rfl) rfl rfl (OV.quiet (ov_add rfl rfl rfl)) ?_
  refine WL.quiet (Runs.free rfl) rfl rfl (OV.quiet (ov_build (r := (.agg #[(.int .i64 (IntKind.wrap .i64 (p_a.low + p_b.low))), (.int .i64 (IntKind.wrap .i64 (p_a.high + p_b.high)))])) rfl rfl (fun _ => by kernel_rfl))) ?_
  refine WL.step0 (Runs.free rfl) rfl (os_store (i := 0) (vs := [(.int .i64 (IntKind.wrap .i64 (p_a.low + p_b.low))), (.int .i64 (IntKind.wrap .i64 (p_a.high + p_b.high)))]) (cs' := [(.int .i64 (IntKind.wrap .i64 (p_a.low + p_b.low))), (.int .i64 (IntKind.wrap .i64 (p_a.high + p_b.high)))]) Tryd.sizeOf23 rfl rfl rfl rfl rfl rfl rfl rfl rfl ?_)
  refine WL.nil ?_
  refine then_normal ?_
  refine WP.ret ?_
  obtain rfl := Option.some.inj hm
  refine retQ_ret Tryd.results57 (Res.cell rfl (box_loads (i := 0) Tryd.isAgg23 Tryd.sizeOf23 rfl rfl) Res.nil) rfl (fun w' s => ⟨s.below, ?_⟩)
  exact rfl

theorem ref03_Add_con (p_a : Span) (p_b : Span) (w : World) (H : Heap) (hH : Le H (hp w)) (hG : Glob H) (r : (Span × Int)) (hm : ref03_Add p_a p_b = some r) :
    Con Tryd.prog 35 [(.agg #[(.int .i64 p_a.low), (.int .i64 p_a.high)]), (.agg #[(.int .i64 p_b.low), (.int .i64 p_b.high)])] w H (fun v _ => v = (.tuple #[(.agg #[(.int .i64 r.1.low), (.int .i64 r.1.high)]), (.int .i64 r.2)])) := by
  unfold ref03_Add at hm
  refine con_of hH Tryd.func35 rfl 20 Tryd.ntmps35 rfl ?_
  refine WP.seq ?_
  refine WP.region ?_
  refine WL.step (Runs.free rfl) rfl rfl (os_box (cs := [(.int .i64 p_a.low), (.int .i64 p_a.high)]) rfl rfl rfl (fun b1 => ?_))
  refine WL.step (Runs.free rfl) rfl rfl (os_box (cs := [(.int .i64 p_b.low), (.int .i64 p_b.high)]) rfl rfl rfl (fun b2 => ?_))
  refine WL.step (Runs.free rfl) rfl rfl (os_alloc (cs := [(.int .i64 0), (.int .i64 0)]) Tryd.zeroValue23 rfl rfl (fun b3 => ?_))
  refine WL.quiet (Runs.free rfl) rfl rfl (OV.quiet (ov_assign rfl rfl)) ?_
  refine WL.nil ?_
  refine then_normal ?_
  refine WP.seq ?_
  refine WP.seq ?_
  refine WP.region ?_
  refine WL.quiet (Runs.free rfl) rfl rfl (OV.quiet (ov_load_whole (i := 2) Tryd.isAgg23 Tryd.sizeOf23 rfl rfl rfl rfl)) ?_
  refine WL.quiet (Runs.free rfl) rfl rfl (OV.quiet (ov_load_whole (i := 1) Tryd.isAgg23 Tryd.sizeOf23 rfl rfl rfl rfl)) ?_
  obtain ⟨r1, e1, hm⟩ := bind_some hm
  refine WL.quiet (Runs.free rfl) rfl rfl (oq_con (r := (.int .i64 r1)) Tryd.call52 rfl rfl (fun w' s => ⟨_, (ref03_both_con p_a p_b  w' H s.hold hG r1 e1)⟩)) ?_
  refine WL.quiet (Runs.free rfl) rfl rfl (OV.quiet (ov_assign rfl rfl)) ?_
  refine WL.nil ?_
  refine then_normal ?_
  refine WP.seq ?_
  refine WP.region ?_
  refine WL.quiet (Runs.free rfl) rfl rfl (OV.quiet (ov_move rfl rfl)) ?_
  refine WL.quiet (Runs.free rfl) rfl rfl (OV.quiet (ov_neq rfl rfl rfl)) ?_
  refine WL.nil ?_
  refine then_normal ?_
  refine WP.cond rfl (fun hc1 => ?_) (fun hc1 => ?_)
  · replace hm := ite_t hc1 hm
    refine WP.seq ?_
    refine WP.region ?_
    refine WL.quiet (Runs.free rfl) rfl rfl (OV.quiet (ov_build (r := (.agg #[(.int .i64 0), (.int .i64 0)])) rfl rfl (fun _ => by kernel_rfl))) ?_
    refine WL.quiet (Runs.free rfl) rfl rfl (OV.quiet (ov_move rfl rfl)) ?_
    refine WL.step0 (Runs.free rfl) rfl (os_store (i := 0) (vs := [(.int .i64 0), (.int .i64 0)]) (cs' := [(.int .i64 0), (.int .i64 0)]) Tryd.sizeOf23 rfl rfl rfl rfl rfl rfl rfl rfl rfl ?_)
    refine WL.quiet (Runs.free rfl) rfl rfl (OV.quiet (ov_assign rfl rfl)) ?_
    refine WL.nil ?_
    refine then_normal ?_
    refine WP.ret ?_
    refine then_ret ?_
    obtain rfl := Option.some.inj hm
    refine retQ_ret Tryd.results35 (Res.cell rfl (box_loads (i := 0) Tryd.isAgg23 Tryd.sizeOf23 rfl rfl) (Res.tmp rfl Res.nil)) rfl (fun w' s => ⟨s.below, ?_⟩)
    exact rfl
  · replace hm := ite_f hc1 hm
    refine WP.skip ?_
    refine then_normal ?_
    refine WP.seq ?_
    refine WP.region ?_
    refine WL.quiet (Runs.free rfl) rfl rfl (OV.quiet (ov_load_whole (i := 2) Tryd.isAgg23 Tryd.sizeOf23 rfl rfl rfl rfl)) ?_
    refine WL.quiet (Runs.free rfl) rfl rfl (OV.quiet (ov_load_whole (i := 1) Tryd.isAgg23 Tryd.sizeOf23 rfl rfl rfl rfl)) ?_
    obtain ⟨r2, e2, hm⟩ := bind_some hm
    refine WL.quiet (Runs.free rfl) rfl rfl (oq_con (r := (.agg #[(.int .i64 r2.low), (.int .i64 r2.high)])) Tryd.call57 rfl rfl (fun w' s => ⟨_, (ref03_Plus_con p_a p_b  w' H s.hold hG r2 e2)⟩)) ?_
    obtain ⟨r3, e3, hm⟩ := bind_some hm
    refine WL.quiet (Runs.free rfl) rfl rfl (oq_con (r := (.tuple #[(.agg #[(.int .i64 r3.1.low), (.int .i64 r3.1.high)]), (.int .i64 r3.2)])) Tryd.call56 rfl rfl (fun w' s => ⟨_, (ref03_limited_con r2  w' H s.hold hG r3 e3)⟩)) ?_
    refine WL.quiet (Runs.free rfl) rfl rfl (OV.quiet (ov_extract rfl rfl rfl)) ?_
    refine WL.quiet (Runs.free rfl) rfl rfl (OV.quiet (ov_extract rfl rfl rfl)) ?_
    refine WL.step0 (Runs.free rfl) rfl (os_store (i := 0) (vs := [(.int .i64 r3.1.low), (.int .i64 r3.1.high)]) (cs' := [(.int .i64 r3.1.low), (.int .i64 r3.1.high)]) Tryd.sizeOf23 rfl rfl rfl rfl rfl rfl rfl rfl rfl ?_)
    refine WL.quiet (Runs.free rfl) rfl rfl (OV.quiet (ov_assign rfl rfl)) ?_
    refine WL.nil ?_
    refine then_normal ?_
    refine WP.ret ?_
    obtain rfl := Option.some.inj hm
    refine retQ_ret Tryd.results35 (Res.cell rfl (box_loads (i := 0) Tryd.isAgg23 Tryd.sizeOf23 rfl rfl) (Res.tmp rfl Res.nil)) rfl (fun w' s => ⟨s.below, ?_⟩)
    exact rfl

theorem law03_right_con (p_a : Span) (p_b : Span) (w : World) (H : Heap) (hH : Le H (hp w)) (hG : Glob H) (r : Bool) (hm : law03_right p_a p_b = some r) :
    Con Tryd.prog 16 [(.agg #[(.int .i64 p_a.low), (.int .i64 p_a.high)]), (.agg #[(.int .i64 p_b.low), (.int .i64 p_b.high)])] w H (fun v _ => v = (.bool r)) := by
  unfold law03_right at hm
  refine con_of hH Tryd.func16 rfl 15 Tryd.ntmps16 rfl ?_
  refine WP.seq ?_
  refine WP.region ?_
  refine WL.step (Runs.free rfl) rfl rfl (os_box (cs := [(.int .i64 p_a.low), (.int .i64 p_a.high)]) rfl rfl rfl (fun b1 => ?_))
  refine WL.step (Runs.free rfl) rfl rfl (os_box (cs := [(.int .i64 p_b.low), (.int .i64 p_b.high)]) rfl rfl rfl (fun b2 => ?_))
  refine WL.quiet (Runs.free rfl) rfl rfl (OV.quiet (ov_assign rfl rfl)) ?_
  refine WL.nil ?_
  refine then_normal ?_
  refine WP.seq ?_
  refine WP.region ?_
  refine WL.quiet (Runs.free rfl) rfl rfl (OV.quiet (ov_load_whole (i := 1) Tryd.isAgg23 Tryd.sizeOf23 rfl rfl rfl rfl)) ?_
  refine WL.quiet (Runs.free rfl) rfl rfl (OV.quiet (ov_load_whole (i := 0) Tryd.isAgg23 Tryd.sizeOf23 rfl rfl rfl rfl)) ?_
  obtain ⟨r1, e1, hm⟩ := bind_some hm
  refine WL.quiet (Runs.free rfl) rfl rfl (oq_con (r := (.tuple #[(.agg #[(.int .i64 r1.1.low), (.int .i64 r1.1.high)]), (.int .i64 r1.2)])) Tryd.call35 rfl rfl (fun w' s => ⟨_, (ref03_Add_con p_a p_b  w' H s.hold hG r1 e1)⟩)) ?_
  refine WL.quiet (Runs.free rfl) rfl rfl (OV.quiet (ov_move rfl rfl)) ?_
  refine WL.quiet (Runs.free rfl) rfl rfl (OV.quiet (ov_extract rfl rfl rfl)) ?_
  refine WL.quiet (Runs.free rfl) rfl rfl (OV.quiet (ov_extract rfl rfl rfl)) ?_
  refine WL.step (Runs.free rfl) rfl rfl (os_alloc (cs := [(.int .i64 0), (.int .i64 0)]) Tryd.zeroValue23 rfl rfl (fun b3 => ?_))
  refine WL.step0 (Runs.free rfl) rfl (os_store (i := 0) (vs := [(.int .i64 r1.1.low), (.int .i64 r1.1.high)]) (cs' := [(.int .i64 r1.1.low), (.int .i64 r1.1.high)]) Tryd.sizeOf23 rfl rfl rfl rfl rfl rfl rfl rfl rfl ?_)
  refine WL.quiet (Runs.free rfl) rfl rfl (OV.quiet (ov_assign rfl rfl)) ?_
  refine WL.nil ?_
  refine then_normal ?_
  refine WP.seq ?_
  refine WP.region ?_
  refine WL.quiet (Runs.free rfl) rfl rfl (OV.quiet (ov_move rfl rfl)) ?_
  refine WL.quiet (Runs.free rfl) rfl rfl (OV.quiet (ov_eql rfl rfl rfl)) ?_
  refine WL.quiet (Runs.free rfl) rfl rfl (OV.quiet (ov_assign rfl rfl)) ?_
  refine WL.nil ?_
  refine then_normal ?_
  refine WP.ret ?_
  obtain rfl := Option.some.inj hm
  refine retQ_ret Tryd.results16 (Res.tmp rfl Res.nil) rfl (fun w' s => ⟨s.below, ?_⟩)
  exact rfl

theorem timespan_checks_con (p_l : (List Span)) (ao1 : Option Addr) (cap1 : Nat) (w : World) (H : Heap) (hH : Le H (hp w)) (h1 : SL H encSpan ao1 p_l) (hc1 : p_l.length ≤ cap1) (hG : Glob H) (r : Int) (hm : timespan_checks p_l = some r) :
    Con Tryd.prog 54 [(.slice ao1 p_l.length cap1)] w H (fun v _ => v = (.int .i64 r)) := by
  unfold timespan_checks at hm
  refine con_of hH Tryd.func54 rfl 18 Tryd.ntmps54 rfl ?_
  refine WP.seq ?_
  refine WP.region ?_
  refine WL.quiet (Runs.free rfl) rfl rfl (OV.quiet (ov_assign rfl rfl)) ?_
  refine WL.nil ?_
  refine then_normal ?_
  obtain ⟨k1, hk1, hm⟩ := joinK_some hm
  refine WP.seq_join (fun g' S' => Sub [] g' ∧ (∀ w', S' w' → St w H [] H w') ∧ k1 = some r) ?_ ?_
  · skip
    refine WP.seq ?_
    refine WP.region ?_
    refine WL.quiet (Runs.free rfl) rfl rfl (OV.quiet (ov_move rfl rfl)) ?_
    refine WL.quiet (Runs.free rfl) rfl rfl (OV.quiet (ov_len_slice Tryd.underlying61 rfl rfl)) ?_
    refine WL.quiet (Runs.free rfl) rfl rfl (OV.quiet (ov_move rfl rfl)) ?_
    refine WL.nil ?_
    refine then_normal ?_
    refine WP.block ?_
    refine WP.loop (fun m1 g' S' => ∃ (i1 : Int), Sub [(6, (.slice ao1 p_l.length cap1)), (7, (.int .i64 (p_l.length : Int))), (8, (.int .i64 i1))] g' ∧ (∀ w', S' w' → St w H [] H w') ∧ timespan_checks_loop1 p_l k1 m1 i1 = some r) ((Int.toNat ((p_l.length : Int) - 0) + 1)) ⟨0, (Sub.cons rfl (Sub.cons rfl (Sub.cons rfl (Sub.nil _)))), fun w' s => s, hm⟩ ?_ ?_
    · rintro g' S' ⟨_, _, _, hm⟩
      exact none_some hm
    · rintro m1 g' S' ⟨i1, hsub1, hS1, hm⟩
      refine WP.sub hsub1 (WP.weaken hS1 ?_)
      rw [timespan_checks_loop1] at hm
      refine WP.seq ?_
      refine WP.region ?_
      refine WL.quiet (Runs.free rfl) rfl rfl (OV.quiet (ov_lss rfl rfl rfl)) ?_
      refine WL.nil ?_
      refine then_normal ?_
      refine WP.seq ?_
      refine WP.cond rfl (fun hc2 => ?_) (fun hc2 => ?_)
      · replace hm := ite_t hc2 hm
        refine WP.skip ?_
        refine then_normal ?_
        refine WP.seq ?_
        refine WP.block ?_
        refine WP.seq ?_
        refine WP.region ?_
        obtain ⟨x1, e1, hm⟩ := bind_some hm
        obtain ⟨h2, h3, h4, cs1, h5, h6⟩ := h1.get e1 (by decide)
        obtain rfl : cs1 = [(.int .i64 x1.low), (.int .i64 x1.high)] := h5
        refine WL.quiet (Runs.free rfl) rfl rfl (OV.quiet (ov_indexAddr Tryd.underlying61 Tryd.sizeOf23 rfl rfl rfl h2 h3 h4)) ?_
        refine WL.quiet (Runs.free rfl) rfl rfl (OV.quiet (ov_load_elems (vs := [(.int .i64 x1.low), (.int .i64 x1.high)]) Tryd.isAgg23 Tryd.sizeOf23 rfl rfl rfl h6 h4)) ?_
        refine WL.step (Runs.free rfl) rfl rfl (os_alloc (cs := [(.int .i64 0), (.int .i64 0)]) Tryd.zeroValue23 rfl rfl (fun b1 => ?_))
        refine WL.step0 (Runs.free rfl) rfl (os_store (i := 0) (vs := [(.int .i64 x1.low), (.int .i64 x1.high)]) (cs' := [(.int .i64 x1.low), (.int .i64 x1.high)]) Tryd.sizeOf23 rfl rfl rfl rfl rfl rfl rfl rfl rfl ?_)
        refine WL.nil ?_
        refine then_normal ?_
        refine WP.seq ?_
        refine WP.region ?_
        refine WL.quiet (Runs.free rfl) rfl rfl (OV.quiet (ov_load_whole (i := 0) Tryd.isAgg23 Tryd.sizeOf23 rfl rfl rfl rfl)) ?_
        obtain ⟨r1, e2, hm⟩ := bind_some hm
        refine WL.quiet (Runs.free rfl) rfl rfl (oq_con (r := (.int .i64 r1)) Tryd.call34 rfl rfl (fun w' s => ⟨_, (timespan_Check_con x1  w' H s.hold hG r1 e2)⟩)) ?_
        refine WL.quiet (Runs.free rfl) rfl rfl (OV.quiet (ov_assign rfl rfl)) ?_
        refine WL.nil ?_
        refine then_normal ?_
        refine WP.seq ?_
        refine WP.region ?_
        refine WL.quiet (Runs.free rfl) rfl rfl (OV.quiet (ov_move rfl rfl)) ?_
        refine WL.quiet (Runs.free rfl) rfl rfl (OV.quiet (ov_neq rfl rfl rfl)) ?_
        refine WL.nil ?_
        refine then_normal ?_
        refine WP.cond rfl (fun hc3 => ?_) (fun hc3 => ?_)
        · replace hm := ite_t hc3 hm
          refine WP.seq ?_
          refine WP.region ?_
          refine WL.quiet (Runs.free rfl) rfl rfl (OV.quiet (ov_move rfl rfl)) ?_
          refine WL.quiet (Runs.free rfl) rfl rfl (OV.quiet (ov_assign rfl rfl)) ?_
          refine WL.nil ?_
          refine then_normal ?_
          refine WP.ret ?_
          refine block_ret ?_
          refine then_ret ?_
          refine then_ret ?_
          refine block_ret ?_
          refine then_ret ?_
          obtain rfl := Option.some.inj hm
          refine retQ_ret Tryd.results54 (Res.tmp rfl Res.nil) rfl (fun w' s => ⟨s.below, ?_⟩)
          exact rfl
        · replace hm := ite_f hc3 hm
          refine WP.skip ?_
          refine block_normal ?_
          refine then_normal ?_
          refine WP.region ?_
          refine WL.quiet (Runs.free rfl) rfl rfl (OV.quiet (ov_add rfl rfl rfl)) ?_
          refine WL.quiet (Runs.free rfl) rfl rfl (OV.quiet (ov_move rfl rfl)) ?_
          refine WL.nil ?_
          refine then_normal ?_
          exact ⟨(IntKind.wrap .i64 (i1 + 1)), (Sub.cons rfl (Sub.cons rfl (Sub.cons rfl (Sub.nil _)))), fun w' s => (s.select [] (by decide) rfl), hm⟩
      · replace hm := ite_f hc2 hm
        refine WP.exit ?_
        refine then_exit ?_
        refine then_exit ?_
        refine block_here ?_
        refine then_normal ?_
        exact ⟨(Sub.nil _), fun w' s => s, hm⟩
  · rintro g' S' ⟨hsub2, hS2, hm⟩
    refine WP.sub hsub2 (WP.weaken hS2 ?_)
    replace hm := hk1.symm.trans hm
    refine WP.seq ?_
    refine WP.region ?_
    refine WL.quiet (Runs.free rfl) rfl rfl (OV.quiet (ov_assign rfl rfl)) ?_
    refine WL.nil ?_
    refine then_normal ?_
    refine WP.ret ?_
    obtain rfl := Option.some.inj hm
    refine retQ_ret Tryd.results54 (Res.tmp rfl Res.nil) rfl (fun w' s => ⟨s.below, ?_⟩)
    exact rfl

theorem timespan_Add_con (p_a : Span) (p_b : Span) (w : World) (H : Heap) (hH : Le H (hp w)) (hG : Glob H) (r : (Span × Int)) (hm : timespan_Add p_a p_b = some r) :
    Con Tryd.prog 17 [(.agg #[(.int .i64 p_a.low), (.int .i64 p_a.high)]), (.agg #[(.int .i64 p_b.low), (.int .i64 p_b.high)])] w H (fun v _ => v = (.tuple #[(.agg #[(.int .i64 r.1.low), (.int .i64 r.1.high)]), (.int .i64 r.2)])) := by
  unfold timespan_Add at hm
  refine con_of hH Tryd.func17 rfl 11 Tryd.ntmps17 rfl ?_
  refine WP.seq ?_
  refine WP.region ?_
  refine WL.step (Runs.free rfl) rfl rfl (os_box (cs := [(.int .i64 p_a.low), (.int .i64 p_a.high)]) rfl rfl rfl (fun b1 => ?_))
  refine WL.step (Runs.free rfl) rfl rfl (os_box (cs := [(.int .i64 p_b.low), (.int .i64 p_b.high)]) rfl rfl rfl (fun b2 => ?_))
  refine WL.step (Runs.free rfl) rfl rfl (os_alloc (cs := [(.int .i64 0), (.int .i64 0)]) Tryd.zeroValue23 rfl rfl (fun b3 => ?_))
  refine WL.quiet (Runs.free rfl) rfl rfl (OV.quiet (ov_assign rfl rfl)) ?_
  refine WL.nil ?_
  refine then_normal ?_
  refine WP.seq ?_
  refine WP.region ?_
  refine WL.quiet (Runs.free rfl) rfl rfl (OV.quiet (ov_load_whole (i := 2) Tryd.isAgg23 Tryd.sizeOf23 rfl rfl rfl rfl)) ?_
  refine WL.quiet (Runs.free rfl) rfl rfl (OV.quiet (ov_load_whole (i := 1) Tryd.isAgg23 Tryd.sizeOf23 rfl rfl rfl rfl)) ?_
  refine WL.step (Runs.free rfl) rfl rfl (os_inline (cap := []) (vs := [(.agg #[(.int .i64 p_a.low), (.int .i64 p_a.high)]), (.agg #[(.int .i64 p_b.low), (.int .i64 p_b.high)]), (.func (.func 48) #[] #[])]) Tryd.call47 rfl rfl rfl Tryd.func47 rfl 36 Tryd.ntmps47 rfl (fun w' s => ?_))
  refine WP.seq ?_
  refine WP.region ?_
  refine WL.step (Runs.free rfl) rfl rfl (os_box (cs := [(.int .i64 p_a.low), (.int .i64 p_a.high)]) rfl rfl rfl (fun b4 => ?_))
  refine WL.step (Runs.free rfl) rfl rfl (os_box (cs := [(.int .i64 p_b.low), (.int .i64 p_b.high)]) rfl rfl rfl (fun b5 => ?_))
  refine WL.step (Runs.free rfl) rfl rfl (os_alloc (cs := [(.int .i64 0), (.int .i64 0)]) Tryd.zeroValue23 rfl rfl (fun b6 => ?_))
  refine WL.quiet (Runs.free rfl) rfl rfl (OV.quiet (ov_assign rfl rfl)) ?_
  refine WL.nil ?_
  refine then_normal ?_
  refine WP.seq ?_
  refine WP.seq ?_
  refine WP.region ?_
  refine WL.quiet (Runs.free rfl) rfl rfl (OV.quiet (ov_load_whole (i := 2) Tryd.isAgg23 Tryd.sizeOf23 rfl rfl rfl rfl)) ?_
  refine WL.quiet (Runs.free rfl) rfl rfl (OV.quiet (ov_load_whole (i := 1) Tryd.isAgg23 Tryd.sizeOf23 rfl rfl rfl rfl)) ?_
  have rl1 : RL H encSpan ([p_a, p_b] : List Span) [(.int .i64 p_a.low), (.int .i64 p_a.high), (.int .i64 p_b.low), (.int .i64 p_b.high)] := RL.cons (cs := [(.int .i64 p_a.low), (.int .i64 p_a.high)]) (xs := [(.int .i64 p_b.low), (.int .i64 p_b.high)]) rfl (RL.cons (cs := [(.int .i64 p_b.low), (.int .i64 p_b.high)]) (xs := []) rfl (RL.nil _ _))
  refine WL.step (Runs.free rfl) rfl rfl (os_buildSlice (cs := [(.int .i64 p_a.low), (.int .i64 p_a.high), (.int .i64 p_b.low), (.int .i64 p_b.high)]) (E := 23) (sz := 2) rfl rfl (fun _ => by kernel_rfl) rfl (by decide) (fun b7 => ?_))
  refine WL.held rl1 (fun H1 hc1 hle1 h1 => ?_)
  replace hG := hG.mono hle1
  obtain ⟨r1, e1, hm⟩ := bind_some hm
  refine WL.quiet (Runs.free rfl) rfl rfl (oq_con (r := (.int .i64 r1)) Tryd.call54 rfl rfl (fun w' s => ⟨_, (timespan_checks_con ([p_a, p_b] : List Span) (some ⟨b7, 0, none⟩) 2  w' H1 s.hold h1 hc1 hG r1 e1)⟩)) ?_
  refine WL.quiet (Runs.free rfl) rfl rfl (OV.quiet (ov_assign rfl rfl)) ?_
  refine WL.nil ?_
  refine then_normal ?_
  refine WP.seq ?_
  refine WP.region ?_
  refine WL.quiet (Runs.free rfl) rfl rfl (OV.quiet (ov_move rfl rfl)) ?_
  refine WL.quiet (Runs.free rfl) rfl rfl (OV.quiet (ov_neq rfl rfl rfl)) ?_
  refine WL.nil ?_
  refine then_normal ?_
  refine WP.cond rfl (fun hc2 => ?_) (fun hc2 => ?_)
  · replace hm := ite_t hc2 hm
    refine WP.seq ?_
    refine WP.region ?_
    refine WL.quiet (Runs.free rfl) rfl rfl (OV.quiet (ov_build (r := (.agg #[(.int .i64 0), (.int .i64 0)])) rfl rfl (fun _ => by kernel_rfl))) ?_
    refine WL.quiet (Runs.free rfl) rfl rfl (OV.quiet (ov_move rfl rfl)) ?_
    refine WL.step0 (Runs.free rfl) rfl (os_store (i := 0) (vs := [(.int .i64 0), (.int .i64 0)]) (cs' := [(.int .i64 0), (.int .i64 0)]) Tryd.sizeOf23 rfl rfl rfl rfl rfl rfl rfl rfl rfl ?_)
    refine WL.quiet (Runs.free rfl) rfl rfl (OV.quiet (ov_assign rfl rfl)) ?_
    refine WL.nil ?_
    refine then_normal ?_
    refine WP.ret ?_
    refine then_ret ?_
    refine retQ_ret (v := (.tuple #[(.agg #[(.int .i64 0), (.int .i64 0)]), (.int .i64 r1)])) Tryd.results47 (Res.cell rfl (box_loads (i := 0) Tryd.isAgg23 Tryd.sizeOf23 rfl rfl) (Res.tmp rfl Res.nil)) rfl (fun w' s => ⟨_, ?_, s⟩)
    refine WL.quiet (Runs.free rfl) rfl rfl (OV.quiet (ov_extract rfl rfl rfl)) ?_
    refine WL.quiet (Runs.free rfl) rfl rfl (OV.quiet (ov_extract rfl rfl rfl)) ?_
    refine WL.step0 (Runs.free rfl) rfl (os_store (i := 3) (vs := [(.int .i64 0), (.int .i64 0)]) (cs' := [(.int .i64 0), (.int .i64 0)]) Tryd.sizeOf23 rfl rfl rfl rfl rfl rfl rfl rfl rfl ?_)
    refine WL.quiet (Runs.free rfl) rfl rfl (OV.quiet (ov_assign rfl rfl)) ?_
    refine WL.nil ?_
    refine then_normal ?_
    refine WP.ret ?_
    obtain rfl := Option.some.inj hm
    refine retQ_ret Tryd.results17 (Res.cell rfl (box_loads (i := 3) Tryd.isAgg23 Tryd.sizeOf23 rfl rfl) (Res.tmp rfl Res.nil)) rfl (fun w' s => ⟨s.below, ?_⟩)
    exact rfl
  · replace hm := ite_f hc2 hm
    refine WP.skip ?_
    refine then_normal ?_
    obtain ⟨k1, hk1, hm⟩ := joinK_some hm
    refine WP.seq_join (fun g' S' => ∃ (b11 : Nat), Sub [(6, (pB b6 0)), (9, (pB b11 0))] g' ∧ (∀ w', S' w' → St w H [.blk b11 23 [(.int .i64 (IntKind.wrap .i64 (p_a.low + p_b.low))), (.int .i64 (IntKind.wrap .i64 (p_a.high + p_b.high)))], .blk b6 23 [(.int .i64 0), (.int .i64 0)], .blk b3 23 [(.int .i64 0), (.int .i64 0)], .blk b2 23 [(.int .i64 p_b.low), (.int .i64 p_b.high)], .blk b1 23 [(.int .i64 p_a.low), (.int .i64 p_a.high)]] H1 w') ∧ k1 = some r) ?_ ?_
    · skip
      refine WP.region_any (S₀ := St w H [.blk b6 23 [(.int .i64 0), (.int .i64 0)], .blk b5 23 [(.int .i64 p_b.low), (.int .i64 p_b.high)], .blk b4 23 [(.int .i64 p_a.low), (.int .i64 p_a.high)], .blk b3 23 [(.int .i64 0), (.int .i64 0)], .blk b2 23 [(.int .i64 p_b.low), (.int .i64 p_b.high)], .blk b1 23 [(.int .i64 p_a.low), (.int .i64 p_a.high)]] H1) 15 rfl (by kernel_rfl) (fun w' s => s) (fun _ s => s.drew) ?_
      refine AL.take (i := 0) rfl (by kernel_rfl) (by kernel_rfl) (by kernel_rfl) (Runs.free rfl) rfl rfl (ov_move rfl rfl) ?_
      refine AL.take (i := 1) rfl (by kernel_rfl) (by kernel_rfl) (by kernel_rfl) (Runs.free rfl) rfl rfl (ov_fieldAddr Tryd.underlying23 rfl rfl rfl Tryd.sizeOf3 rfl rfl) ?_
      refine AL.take (i := 2) rfl (by kernel_rfl) (by kernel_rfl) (by kernel_rfl) (Runs.free rfl) rfl rfl (ov_load_box (i := 2) Tryd.isAgg3 rfl rfl rfl rfl) ?_
      refine AL.take (i := 3) rfl (by kernel_rfl) (by kernel_rfl) (by kernel_rfl) (Runs.free rfl) rfl rfl (ov_fieldAddr Tryd.underlying23 rfl rfl rfl Tryd.sizeOf3 rfl rfl) ?_
      refine AL.take (i := 4) rfl (by kernel_rfl) (by kernel_rfl) (by kernel_rfl) (Runs.free rfl) rfl rfl (ov_load_box (i := 1) Tryd.isAgg3 rfl rfl rfl rfl) ?_
      refine AL.take (i := 6) rfl (by kernel_rfl) (by kernel_rfl) (by kernel_rfl) (Runs.free rfl) rfl rfl (ov_move rfl rfl) ?_
      refine AL.take (i := 7) rfl (by kernel_rfl) (by kernel_rfl) (by kernel_rfl) (Runs.free rfl) rfl rfl (ov_fieldAddr Tryd.underlying23 rfl rfl rfl Tryd.sizeOf3 rfl rfl) ?_
      refine AL.take (i := 8) rfl (by kernel_rfl) (by kernel_rfl) (by kernel_rfl) (Runs.free rfl) rfl rfl (ov_load_box (i := 2) Tryd.isAgg3 rfl rfl rfl rfl) ?_
      refine AL.take (i := 9) rfl (by kernel_rfl) (by kernel_rfl) (by kernel_rfl) (Runs.free rfl) rfl rfl (ov_fieldAddr Tryd.underlying23 rfl rfl rfl Tryd.sizeOf3 rfl rfl) ?_
      refine AL.take (i := 10) rfl (by kernel_rfl) (by kernel_rfl) (by kernel_rfl) (Runs.free rfl) rfl rfl (ov_load_box (i := 1) Tryd.isAgg3 rfl rfl rfl rfl) ?_
      refine AL.any (rs := [5, 13]) (by kernel_rfl) (by decide) ?_
      refine ALs.cons (i := 5) rfl (Runs.free rfl) rfl rfl ?_ ?_
      · skip
        refine os_inline (cap := []) (vs := [(.int .i64 p_a.low), (.int .i64 p_b.low)]) Tryd.call48 rfl rfl rfl Tryd.func48 rfl 8 Tryd.ntmps48 rfl (fun w' s => ?_)
        refine WP.seq ?_
        refine WP.region ?_
        refine WL.quiet (Runs.free rfl) rfl rfl (OV.quiet (ov_assign rfl rfl)) ?_
        refine WL.nil ?_
        refine then_normal ?_
        refine WP.seq ?_
        refine WP.region ?_
        refine WL.quiet (Runs.free rfl) rfl rfl (OV.quiet (ov_move rfl rfl)) ?_
        refine WL.quiet (Runs.free rfl) rfl rfl (OV.quiet (ov_move rfl rfl)) ?_
        refine WL.quiet (Runs.free rfl) rfl rfl (OV.quiet (ov_add rfl rfl rfl)) ?_
        refine WL.quiet (Runs.free rfl) rfl rfl (OV.quiet (ov_assign rfl rfl)) ?_
        refine WL.nil ?_
        refine then_normal ?_
        refine WP.ret ?_
        refine retQ_ret (v := (.int .i64 (IntKind.wrap .i64 (p_a.low + p_b.low)))) Tryd.results48 (Res.tmp rfl Res.nil) rfl (fun w' s => ⟨_, ?_, s⟩)
        refine ⟨fun w' s => s, ?_⟩
        refine AL.any (rs := [11, 13]) (by kernel_rfl) (by decide) ?_
        refine ALs.cons (i := 11) rfl (Runs.free rfl) rfl rfl ?_ ?_
        · skip
          refine os_inline (cap := []) (vs := [(.int .i64 p_a.high), (.int .i64 p_b.high)]) Tryd.call48 rfl rfl rfl Tryd.func48 rfl 8 Tryd.ntmps48 rfl (fun w' s => ?_)
          refine WP.seq ?_
          refine WP.region ?_
          refine WL.quiet (Runs.free rfl) rfl rfl (OV.quiet (ov_assign rfl rfl)) ?_
          refine WL.nil ?_
          refine then_normal ?_
          refine WP.seq ?_
          refine WP.region ?_
          refine WL.quiet (Runs.free rfl) rfl rfl (OV.quiet (ov_move rfl rfl)) ?_
          refine WL.quiet (Runs.free rfl) rfl rfl (OV.quiet (ov_move rfl rfl)) ?_
          refine WL.quiet (Runs.free rfl) rfl rfl (OV.quiet (ov_add rfl rfl rfl)) ?_
          refine WL.quiet (Runs.free rfl) rfl rfl (OV.quiet (ov_assign rfl rfl)) ?_
          refine WL.nil ?_
          refine then_normal ?_
          refine WP.ret ?_
          refine retQ_ret (v := (.int .i64 (IntKind.wrap .i64 (p_a.high + p_b.high)))) Tryd.results48 (Res.tmp rfl Res.nil) rfl (fun w' s => ⟨_, ?_, s⟩)
          refine ⟨fun w' s => s, ?_⟩
          refine AL.take (i := 12) rfl (by kernel_rfl) (by kernel_rfl) (by kernel_rfl) (Runs.free rfl) rfl rfl (ov_build (r := (.agg #[(.int .i64 (IntKind.wrap .i64 (p_a.low + p_b.low))), (.int .i64 (IntKind.wrap .i64 (p_a.high + p_b.high)))])) rfl rfl (fun _ => by kernel_rfl)) ?_
          refine AL.any (rs := [13]) (by kernel_rfl) (by decide) ?_
          refine ALs.cons (i := 13) rfl (Runs.free rfl) rfl rfl ?_ ?_
          · skip
            refine os_alloc (cs := [(.int .i64 0), (.int .i64 0)]) Tryd.zeroValue23 rfl rfl (fun b8 => ?_)
            refine ⟨fun w' s => (s.select [1, 2, 3, 4, 5, 6] (by decide) rfl), ?_⟩
            refine AL.any (rs := [14]) (by kernel_rfl) (by decide) ?_
            refine ALs.cons0 (i := 14) rfl (Runs.free rfl) rfl ?_ ?_
            · skip
              refine os_store (i := 0) (vs := [(.int .i64 (IntKind.wrap .i64 (p_a.low + p_b.low))), (.int .i64 (IntKind.wrap .i64 (p_a.high + p_b.high)))]) (cs' := [(.int .i64 (IntKind.wrap .i64 (p_a.low + p_b.low))), (.int .i64 (IntKind.wrap .i64 (p_a.high + p_b.high)))]) Tryd.sizeOf23 rfl rfl rfl rfl rfl rfl rfl rfl rfl ?_
              refine ⟨fun w' s => (s.select [1, 2, 3, 4, 5, 6] (by decide) rfl), ?_⟩
              refine AL.done (by kernel_rfl) ?_
              refine then_normal ?_
              exact ⟨b8, (Sub.cons rfl (Sub.cons rfl (Sub.nil _))), fun w' s => (s.select [0, 1, 4, 5, 6] (by decide) rfl), hm⟩
            exact ALs.nil
          exact ALs.nil
        refine ALs.cons (i := 13) rfl (Runs.free rfl) rfl rfl ?_ ?_
        · skip
          refine os_alloc (cs := [(.int .i64 0), (.int .i64 0)]) Tryd.zeroValue23 rfl rfl (fun b9 => ?_)
          refine ⟨fun w' s => (s.select [1, 2, 3, 4, 5, 6] (by decide) rfl), ?_⟩
          refine AL.any (rs := [11]) (by kernel_rfl) (by decide) ?_
          refine ALs.cons (i := 11) rfl (Runs.free rfl) rfl rfl ?_ ?_
          · skip
            refine os_inline (cap := []) (vs := [(.int .i64 p_a.high), (.int .i64 p_b.high)]) Tryd.call48 rfl rfl rfl Tryd.func48 rfl 8 Tryd.ntmps48 rfl (fun w' s => ?_)
            refine WP.seq ?_
            refine WP.region ?_
            refine WL.quiet (Runs.free rfl) rfl rfl (OV.quiet (ov_assign rfl rfl)) ?_
            refine WL.nil ?_
            refine then_normal ?_
            refine WP.seq ?_
            refine WP.region ?_
            refine WL.quiet (Runs.free rfl) rfl rfl (OV.quiet (ov_move rfl rfl)) ?_
            refine WL.quiet (Runs.free rfl) rfl rfl (OV.quiet (ov_move rfl rfl)) ?_
            refine WL.quiet (Runs.free rfl) rfl rfl (OV.quiet (ov_add rfl rfl rfl)) ?_
            refine WL.quiet (Runs.free rfl) rfl rfl (OV.quiet (ov_assign rfl rfl)) ?_
            refine WL.nil ?_
            refine then_normal ?_
            refine WP.ret ?_
            refine retQ_ret (v := (.int .i64 (IntKind.wrap .i64 (p_a.high + p_b.high)))) Tryd.results48 (Res.tmp rfl Res.nil) rfl (fun w' s => ⟨_, ?_, s⟩)
            refine ⟨fun w' s => (s.select [1, 2, 3, 4, 5, 6] (by decide) rfl), ?_⟩
            refine AL.take (i := 12) rfl (by kernel_rfl) (by kernel_rfl) (by kernel_rfl) (Runs.free rfl) rfl rfl (ov_build (r := (.agg #[(.int .i64 (IntKind.wrap .i64 (p_a.low + p_b.low))), (.int .i64 (IntKind.wrap .i64 (p_a.high + p_b.high)))])) rfl rfl (fun _ => by kernel_rfl)) ?_
            refine AL.any (rs := [14]) (by kernel_rfl) (by decide) ?_
            refine ALs.cons0 (i := 14) rfl (Runs.free rfl) rfl ?_ ?_
            · skip
              refine os_store (i := 0) (vs := [(.int .i64 (IntKind.wrap .i64 (p_a.low + p_b.low))), (.int .i64 (IntKind.wrap .i64 (p_a.high + p_b.high)))]) (cs' := [(.int .i64 (IntKind.wrap .i64 (p_a.low + p_b.low))), (.int .i64 (IntKind.wrap .i64 (p_a.high + p_b.high)))]) Tryd.sizeOf23 rfl rfl rfl rfl rfl rfl rfl rfl rfl ?_
              refine ⟨fun w' s => (s.select [1, 2, 3, 4, 5, 6] (by decide) rfl), ?_⟩
              refine AL.done (by kernel_rfl) ?_
              refine then_normal ?_
              exact ⟨b9, (Sub.cons rfl (Sub.cons rfl (Sub.nil _))), fun w' s => (s.select [0, 1, 4, 5, 6] (by decide) rfl), hm⟩
            exact ALs.nil
          exact ALs.nil
        exact ALs.nil
      refine ALs.cons (i := 13) rfl (Runs.free rfl) rfl rfl ?_ ?_
      · skip
        refine os_alloc (cs := [(.int .i64 0), (.int .i64 0)]) Tryd.zeroValue23 rfl rfl (fun b10 => ?_)
        refine ⟨fun w' s => (s.select [1, 2, 3, 4, 5, 6] (by decide) rfl), ?_⟩
        refine AL.any (rs := [5]) (by kernel_rfl) (by decide) ?_
        refine ALs.cons (i := 5) rfl (Runs.free rfl) rfl rfl ?_ ?_
        · skip
          refine os_inline (cap := []) (vs := [(.int .i64 p_a.low), (.int .i64 p_b.low)]) Tryd.call48 rfl rfl rfl Tryd.func48 rfl 8 Tryd.ntmps48 rfl (fun w' s => ?_)
          refine WP.seq ?_
          refine WP.region ?_
          refine WL.quiet (Runs.free rfl) rfl rfl (OV.quiet (ov_assign rfl rfl)) ?_
          refine WL.nil ?_
          refine then_normal ?_
          refine WP.seq ?_
          refine WP.region ?_
          refine WL.quiet (Runs.free rfl) rfl rfl (OV.quiet (ov_move rfl rfl)) ?_
          refine WL.quiet (Runs.free rfl) rfl rfl (OV.quiet (ov_move rfl rfl)) ?_
          refine WL.quiet (Runs.free rfl) rfl rfl (OV.quiet (ov_add rfl rfl rfl)) ?_
          refine WL.quiet (Runs.free rfl) rfl rfl (OV.quiet (ov_assign rfl rfl)) ?_
          refine WL.nil ?_
          refine then_normal ?_
          refine WP.ret ?_
          refine retQ_ret (v := (.int .i64 (IntKind.wrap .i64 (p_a.low + p_b.low)))) Tryd.results48 (Res.tmp rfl Res.nil) rfl (fun w' s => ⟨_, ?_, s⟩)
          refine ⟨fun w' s => (s.select [1, 2, 3, 4, 5, 6] (by decide) rfl), ?_⟩
          refine AL.any (rs := [11]) (by kernel_rfl) (by decide) ?_
          refine ALs.cons (i := 11) rfl (Runs.free rfl) rfl rfl ?_ ?_
          · skip
            refine os_inline (cap := []) (vs := [(.int .i64 p_a.high), (.int .i64 p_b.high)]) Tryd.call48 rfl rfl rfl Tryd.func48 rfl 8 Tryd.ntmps48 rfl (fun w' s => ?_)
            refine WP.seq ?_
            refine WP.region ?_
            refine WL.quiet (Runs.free rfl) rfl rfl (OV.quiet (ov_assign rfl rfl)) ?_
            refine WL.nil ?_
            refine then_normal ?_
            refine WP.seq ?_
            refine WP.region ?_
            refine WL.quiet (Runs.free rfl) rfl rfl (OV.quiet (ov_move rfl rfl)) ?_
            refine WL.quiet (Runs.free rfl) rfl rfl (OV.quiet (ov_move rfl rfl)) ?_
            refine WL.quiet (Runs.free rfl) rfl rfl (OV.quiet (ov_add rfl rfl rfl)) ?_
            refine WL.quiet (Runs.free rfl) rfl rfl (OV.quiet (ov_assign rfl rfl)) ?_
            refine WL.nil ?_
            refine then_normal ?_
            refine WP.ret ?_
            refine retQ_ret (v := (.int .i64 (IntKind.wrap .i64 (p_a.high + p_b.high)))) Tryd.results48 (Res.tmp rfl Res.nil) rfl (fun w' s => ⟨_, ?_, s⟩)
            refine ⟨fun w' s => (s.select [1, 2, 3, 4, 5, 6] (by decide) rfl), ?_⟩
            refine AL.take (i := 12) rfl (by kernel_rfl) (by kernel_rfl) (by kernel_rfl) (Runs.free rfl) rfl rfl (ov_build (r := (.agg #[(.int .i64 (IntKind.wrap .i64 (p_a.low + p_b.low))), (.int .i64 (IntKind.wrap .i64 (p_a.high + p_b.high)))])) rfl rfl (fun _ => by kernel_rfl)) ?_
            refine AL.any (rs := [14]) (by kernel_rfl) (by decide) ?_
            refine ALs.cons0 (i := 14) rfl (Runs.free rfl) rfl ?_ ?_
            · skip
              refine os_store (i := 0) (vs := [(.int .i64 (IntKind.wrap .i64 (p_a.low + p_b.low))), (.int .i64 (IntKind.wrap .i64 (p_a.high + p_b.high)))]) (cs' := [(.int .i64 (IntKind.wrap .i64 (p_a.low + p_b.low))), (.int .i64 (IntKind.wrap .i64 (p_a.high + p_b.high)))]) Tryd.sizeOf23 rfl rfl rfl rfl rfl rfl rfl rfl rfl ?_
              refine ⟨fun w' s => (s.select [1, 2, 3, 4, 5, 6] (by decide) rfl), ?_⟩
              refine AL.done (by kernel_rfl) ?_
              refine then_normal ?_
              exact ⟨b10, (Sub.cons rfl (Sub.cons rfl (Sub.nil _))), fun w' s => (s.select [0, 1, 4, 5, 6] (by decide) rfl), hm⟩
            exact ALs.nil
          exact ALs.nil
        exact ALs.nil
      exact ALs.nil
    · rintro g' S' ⟨b11, hsub1, hS1, hm⟩
      refine WP.sub hsub1 (WP.weaken hS1 ?_)
      replace hm := hk1.symm.trans hm
      refine WP.seq ?_
      refine WP.seq ?_
      refine WP.region ?_
      refine WL.quiet (Runs.free rfl) rfl rfl (OV.quiet (ov_fieldAddr Tryd.underlying23 rfl rfl rfl Tryd.sizeOf3 rfl rfl)) ?_
      refine WL.quiet (Runs.free rfl) rfl rfl (OV.quiet (ov_load_box (i := 0) Tryd.isAgg3 rfl rfl rfl rfl)) ?_
      refine WL.quiet (Runs.free rfl) rfl rfl (OV.quiet (ov_gtr rfl rfl rfl)) ?_
      refine WL.nil ?_
      refine then_normal ?_
      refine WP.cond rfl (fun hc3 => ?_) (fun hc3 => ?_)
      · replace hm := ite_t hc3 hm
        refine WP.seq ?_
        refine WP.region ?_
        refine WL.quiet (Runs.free rfl) rfl rfl (OV.quiet (ov_build (r := (.agg #[(.int .i64 0), (.int .i64 0)])) rfl rfl (fun _ => by kernel_rfl))) ?_
        refine WL.step0 (Runs.free rfl) rfl (os_store (i := 1) (vs := [(.int .i64 0), (.int .i64 0)]) (cs' := [(.int .i64 0), (.int .i64 0)]) Tryd.sizeOf23 rfl rfl rfl rfl rfl rfl rfl rfl rfl ?_)
        refine WL.quiet (Runs.free rfl) rfl rfl (OV.quiet (ov_assign rfl rfl)) ?_
        refine WL.nil ?_
        refine then_normal ?_
        refine WP.ret ?_
        refine then_ret ?_
        refine retQ_ret (v := (.tuple #[(.agg #[(.int .i64 0), (.int .i64 0)]), (.int .i64 11)])) Tryd.results47 (Res.cell rfl (box_loads (i := 1) Tryd.isAgg23 Tryd.sizeOf23 rfl rfl) (Res.tmp rfl Res.nil)) rfl (fun w' s => ⟨_, ?_, s⟩)
        refine WL.quiet (Runs.free rfl) rfl rfl (OV.quiet (ov_extract rfl rfl rfl)) ?_
        refine WL.quiet (Runs.free rfl) rfl rfl (OV.quiet (ov_extract rfl rfl rfl)) ?_
        refine WL.step0 (Runs.free rfl) rfl (os_store (i := 2) (vs := [(.int .i64 0), (.int .i64 0)]) (cs' := [(.int .i64 0), (.int .i64 0)]) Tryd.sizeOf23 rfl rfl rfl rfl rfl rfl rfl rfl rfl ?_)
        refine WL.quiet (Runs.free rfl) rfl rfl (OV.quiet (ov_assign rfl rfl)) ?_
        refine WL.nil ?_
        refine then_normal ?_
        refine WP.ret ?_
        obtain rfl := Option.some.inj hm
        refine retQ_ret Tryd.results17 (Res.cell rfl (box_loads (i := 2) Tryd.isAgg23 Tryd.sizeOf23 rfl rfl) (Res.tmp rfl Res.nil)) rfl (fun w' s => ⟨s.below, ?_⟩)
        exact rfl
      · replace hm := ite_f hc3 hm
        refine WP.skip ?_
        refine then_normal ?_
        refine WP.seq ?_
        refine WP.region ?_
        refine WL.quiet (Runs.free rfl) rfl rfl (OV.quiet (ov_load_whole (i := 0) Tryd.isAgg23 Tryd.sizeOf23 rfl rfl rfl rfl)) ?_
        refine WL.step0 (Runs.free rfl) rfl (os_store (i := 1) (vs := [(.int .i64 (IntKind.wrap .i64 (p_a.low + p_b.low))), (.int .i64 (IntKind.wrap .i64 (p_a.high + p_b.high)))]) (cs' := [(.int .i64 (IntKind.wrap .i64 (p_a.low + p_b.low))), (.int .i64 (IntKind.wrap .i64 (p_a.high + p_b.high)))]) Tryd.sizeOf23 rfl rfl rfl rfl rfl rfl rfl rfl rfl ?_)
        refine WL.quiet (Runs.free rfl) rfl rfl (OV.quiet (ov_assign rfl rfl)) ?_
        refine WL.nil ?_
        refine then_normal ?_
        refine WP.ret ?_
        refine retQ_ret (v := (.tuple #[(.agg #[(.int .i64 (IntKind.wrap .i64 (p_a.low + p_b.low))), (.int .i64 (IntKind.wrap .i64 (p_a.high + p_b.high)))]), (.int .i64 0)])) Tryd.results47 (Res.cell rfl (box_loads (i := 1) Tryd.isAgg23 Tryd.sizeOf23 rfl rfl) (Res.tmp rfl Res.nil)) rfl (fun w' s => ⟨_, ?_, s⟩)
        refine WL.quiet (Runs.free rfl) rfl rfl (OV.quiet (ov_extract rfl rfl rfl)) ?_
        refine WL.quiet (Runs.free rfl) rfl rfl (OV.quiet (ov_extract rfl rfl rfl)) ?_
        refine WL.step0 (Runs.free rfl) rfl (os_store (i := 2) (vs := [(.int .i64 (IntKind.wrap .i64 (p_a.low + p_b.low))), (.int .i64 (IntKind.wrap .i64 (p_a.high + p_b.high)))]) (cs' := [(.int .i64 (IntKind.wrap .i64 (p_a.low + p_b.low))), (.int .i64 (IntKind.wrap .i64 (p_a.high + p_b.high)))]) Tryd.sizeOf23 rfl rfl rfl rfl rfl rfl rfl rfl rfl ?_)
        refine WL.quiet (Runs.free rfl) rfl rfl (OV.quiet (ov_assign rfl rfl)) ?_
        refine WL.nil ?_
        refine then_normal ?_
        refine WP.ret ?_
        obtain rfl := Option.some.inj hm
        refine retQ_ret Tryd.results17 (Res.cell rfl (box_loads (i := 2) Tryd.isAgg23 Tryd.sizeOf23 rfl rfl) (Res.tmp rfl Res.nil)) rfl (fun w' s => ⟨s.below, ?_⟩)
        exact rfl

theorem timespan_Later_con (p_a : Span) (p_b : Span) (w : World) (H : Heap) (hH : Le H (hp w)) (hG : Glob H) (r : (Span × Int)) (hm : timespan_Later p_a p_b = some r) :
    Con Tryd.prog 18 [(.agg #[(.int .i64 p_a.low), (.int .i64 p_a.high)]), (.agg #[(.int .i64 p_b.low), (.int .i64 p_b.high)])] w H (fun v _ => v = (.tuple #[(.agg #[(.int .i64 r.1.low), (.int .i64 r.1.high)]), (.int .i64 r.2)])) := by
  unfold timespan_Later at hm
  refine con_of hH Tryd.func18 rfl 11 Tryd.ntmps18 rfl ?_
  refine WP.seq ?_
  refine WP.region ?_
  refine WL.step (Runs.free rfl) rfl rfl (os_box (cs := [(.int .i64 p_a.low), (.int .i64 p_a.high)]) rfl rfl rfl (fun b1 => ?_))
  refine WL.step (Runs.free rfl) rfl rfl (os_box (cs := [(.int .i64 p_b.low), (.int .i64 p_b.high)]) rfl rfl rfl (fun b2 => ?_))
  refine WL.step (Runs.free rfl) rfl rfl (os_alloc (cs := [(.int .i64 0), (.int .i64 0)]) Tryd.zeroValue23 rfl rfl (fun b3 => ?_))
  refine WL.quiet (Runs.free rfl) rfl rfl (OV.quiet (ov_assign rfl rfl)) ?_
  refine WL.nil ?_
  refine then_normal ?_
  refine WP.seq ?_
  refine WP.region ?_
  refine WL.quiet (Runs.free rfl) rfl rfl (OV.quiet (ov_load_whole (i := 2) Tryd.isAgg23 Tryd.sizeOf23 rfl rfl rfl rfl)) ?_
  refine WL.quiet (Runs.free rfl) rfl rfl (OV.quiet (ov_load_whole (i := 1) Tryd.isAgg23 Tryd.sizeOf23 rfl rfl rfl rfl)) ?_
  refine WL.step (Runs.free rfl) rfl rfl (os_inline (cap := []) (vs := [(.agg #[(.int .i64 p_a.low), (.int .i64 p_a.high)]), (.agg #[(.int .i64 p_b.low), (.int .i64 p_b.high)]), (.func (.func 49) #[] #[])]) Tryd.call47 rfl rfl rfl Tryd.func47 rfl 36 Tryd.ntmps47 rfl (fun w' s => ?_))
  refine WP.seq ?_
  refine WP.region ?_
  refine WL.step (Runs.free rfl) rfl rfl (os_box (cs := [(.int .i64 p_a.low), (.int .i64 p_a.high)]) rfl rfl rfl (fun b4 => ?_))
  refine WL.step (Runs.free rfl) rfl rfl (os_box (cs := [(.int .i64 p_b.low), (.int .i64 p_b.high)]) rfl rfl rfl (fun b5 => ?_))
  refine WL.step (Runs.free rfl) rfl rfl (os_alloc (cs := [(.int .i64 0), (.int .i64 0)]) Tryd.zeroValue23 rfl rfl (fun b6 => ?_))
  refine WL.quiet (Runs.free rfl) rfl rfl (OV.quiet (ov_assign rfl rfl)) ?_
  refine WL.nil ?_
  refine then_normal ?_
  refine WP.seq ?_
  refine WP.seq ?_
  refine WP.region ?_
  refine WL.quiet (Runs.free rfl) rfl rfl (OV.quiet (ov_load_whole (i := 2) Tryd.isAgg23 Tryd.sizeOf23 rfl rfl rfl rfl)) ?_
  refine WL.quiet (Runs.free rfl) rfl rfl (OV.quiet (ov_load_whole (i := 1) Tryd.isAgg23 Tryd.sizeOf23 rfl rfl rfl rfl)) ?_
  have rl1 : RL H encSpan ([p_a, p_b] : List Span) [(.int .i64 p_a.low), (.int .i64 p_a.high), (.int .i64 p_b.low), (.int .i64 p_b.high)] := RL.cons (cs := [(.int .i64 p_a.low), (.int .i64 p_a.high)]) (xs := [(.int .i64 p_b.low), (.int .i64 p_b.high)]) rfl (RL.cons (cs := [(.int .i64 p_b.low), (.int .i64 p_b.high)]) (xs := []) rfl (RL.nil _ _))
  refine WL.step (Runs.free rfl) rfl rfl (os_buildSlice (cs := [(.int .i64 p_a.low), (.int .i64 p_a.high), (.int .i64 p_b.low), (.int .i64 p_b.high)]) (E := 23) (sz := 2) rfl rfl (fun _ => by kernel_rfl) rfl (by decide) (fun b7 => ?_))
  refine WL.held rl1 (fun H1 hc1 hle1 h1 => ?_)
  replace hG := hG.mono hle1
  obtain ⟨r1, e1, hm⟩ := bind_some hm
  refine WL.quiet (Runs.free rfl) rfl rfl (oq_con (r := (.int .i64 r1)) Tryd.call54 rfl rfl (fun w' s => ⟨_, (timespan_checks_con ([p_a, p_b] : List Span) (some ⟨b7, 0, none⟩) 2  w' H1 s.hold h1 hc1 hG r1 e1)⟩)) ?_
  refine WL.quiet (Runs.free rfl) rfl rfl (OV.quiet (ov_assign rfl rfl)) ?_
  refine WL.nil ?_
  refine then_normal ?_
  refine WP.seq ?_
  refine WP.region ?_
  refine WL.quiet (Runs.free rfl) rfl rfl (OV.quiet (ov_move rfl rfl)) ?_
  refine WL.quiet (Runs.free rfl) rfl rfl (OV.quiet (ov_neq rfl rfl rfl)) ?_
  refine WL.nil ?_
  refine then_normal ?_
  refine WP.cond rfl (fun hc2 => ?_) (fun hc2 => ?_)
  · replace hm := ite_t hc2 hm
    refine WP.seq ?_
    refine WP.region ?_
    refine WL.quiet (Runs.free rfl) rfl rfl (OV.quiet (ov_build (r := (.agg #[(.int .i64 0), (.int .i64 0)])) rfl rfl (fun _ => by kernel_rfl))) ?_
    refine WL.quiet (Runs.free rfl) rfl rfl (OV.quiet (ov_move rfl rfl)) ?_
    refine WL.step0 (Runs.free rfl) rfl (os_store (i := 0) (vs := [(.int .i64 0), (.int .i64 0)]) (cs' := [(.int .i64 0), (.int .i64 0)]) Tryd.sizeOf23 rfl rfl rfl rfl rfl rfl rfl rfl rfl ?_)
    refine WL.quiet (Runs.free rfl) rfl rfl (OV.quiet (ov_assign rfl rfl)) ?_
    refine WL.nil ?_
    refine then_normal ?_
    refine WP.ret ?_
    refine then_ret ?_
    refine retQ_ret (v := (.tuple #[(.agg #[(.int .i64 0), (.int .i64 0)]), (.int .i64 r1)])) Tryd.results47 (Res.cell rfl (box_loads (i := 0) Tryd.isAgg23 Tryd.sizeOf23 rfl rfl) (Res.tmp rfl Res.nil)) rfl (fun w' s => ⟨_, ?_, s⟩)
    refine WL.quiet (Runs.free rfl) rfl rfl (OV.quiet (ov_extract rfl rfl rfl)) ?_
    refine WL.quiet (Runs.free rfl) rfl rfl (OV.quiet (ov_extract rfl rfl rfl)) ?_
    refine WL.step0 (Runs.free rfl) rfl (os_store (i := 3) (vs := [(.int .i64 0), (.int .i64 0)]) (cs' := [(.int .i64 0), (.int .i64 0)]) Tryd.sizeOf23 rfl rfl rfl rfl rfl rfl rfl rfl rfl ?_)
    refine WL.quiet (Runs.free rfl) rfl rfl (OV.quiet (ov_assign rfl rfl)) ?_
    refine WL.nil ?_
    refine then_normal ?_
    refine WP.ret ?_
    obtain rfl := Option.some.inj hm
    refine retQ_ret Tryd.results18 (Res.cell rfl (box_loads (i := 3) Tryd.isAgg23 Tryd.sizeOf23 rfl rfl) (Res.tmp rfl Res.nil)) rfl (fun w' s => ⟨s.below, ?_⟩)
    exact rfl
  · replace hm := ite_f hc2 hm
    refine WP.skip ?_
    refine then_normal ?_
    obtain ⟨k1, hk1, hm⟩ := joinK_some hm
    refine WP.seq_join (fun g' S' => ∃ (b11 : Nat), Sub [(6, (pB b6 0)), (9, (pB b11 0))] g' ∧ (∀ w', S' w' → St w H [.blk b11 23 [(.int .i64 (if p_b.low > p_a.low then p_b.low else p_a.low)), (.int .i64 (if p_b.high > p_a.high then p_b.high else p_a.high))], .blk b6 23 [(.int .i64 0), (.int .i64 0)], .blk b3 23 [(.int .i64 0), (.int .i64 0)], .blk b2 23 [(.int .i64 p_b.low), (.int .i64 p_b.high)], .blk b1 23 [(.int .i64 p_a.low), (.int .i64 p_a.high)]] H1 w') ∧ k1 = some r) ?_ ?_
    · skip
      refine WP.region_any (S₀ := St w H [.blk b6 23 [(.int .i64 0), (.int .i64 0)], .blk b5 23 [(.int .i64 p_b.low), (.int .i64 p_b.high)], .blk b4 23 [(.int .i64 p_a.low), (.int .i64 p_a.high)], .blk b3 23 [(.int .i64 0), (.int .i64 0)], .blk b2 23 [(.int .i64 p_b.low), (.int .i64 p_b.high)], .blk b1 23 [(.int .i64 p_a.low), (.int .i64 p_a.high)]] H1) 15 rfl (by kernel_rfl) (fun w' s => s) (fun _ s => s.drew) ?_
      refine AL.take (i := 0) rfl (by kernel_rfl) (by kernel_rfl) (by kernel_rfl) (Runs.free rfl) rfl rfl (ov_move rfl rfl) ?_
      refine AL.take (i := 1) rfl (by kernel_rfl) (by kernel_rfl) (by kernel_rfl) (Runs.free rfl) rfl rfl (ov_fieldAddr Tryd.underlying23 rfl rfl rfl Tryd.sizeOf3 rfl rfl) ?_
      refine AL.take (i := 2) rfl (by kernel_rfl) (by kernel_rfl) (by kernel_rfl) (Runs.free rfl) rfl rfl (ov_load_box (i := 2) Tryd.isAgg3 rfl rfl rfl rfl) ?_
      refine AL.take (i := 3) rfl (by kernel_rfl) (by kernel_rfl) (by kernel_rfl) (Runs.free rfl) rfl rfl (ov_fieldAddr Tryd.underlying23 rfl rfl rfl Tryd.sizeOf3 rfl rfl) ?_
      refine AL.take (i := 4) rfl (by kernel_rfl) (by kernel_rfl) (by kernel_rfl) (Runs.free rfl) rfl rfl (ov_load_box (i := 1) Tryd.isAgg3 rfl rfl rfl rfl) ?_
      refine AL.take (i := 6) rfl (by kernel_rfl) (by kernel_rfl) (by kernel_rfl) (Runs.free rfl) rfl rfl (ov_move rfl rfl) ?_
      refine AL.take (i := 7) rfl (by kernel_rfl) (by kernel_rfl) (by kernel_rfl) (Runs.free rfl) rfl rfl (ov_fieldAddr Tryd.underlying23 rfl rfl rfl Tryd.sizeOf3 rfl rfl) ?_
      refine AL.take (i := 8) rfl (by kernel_rfl) (by kernel_rfl) (by kernel_rfl) (Runs.free rfl) rfl rfl (ov_load_box (i := 2) Tryd.isAgg3 rfl rfl rfl rfl) ?_
      refine AL.take (i := 9) rfl (by kernel_rfl) (by kernel_rfl) (by kernel_rfl) (Runs.free rfl) rfl rfl (ov_fieldAddr Tryd.underlying23 rfl rfl rfl Tryd.sizeOf3 rfl rfl) ?_
      refine AL.take (i := 10) rfl (by kernel_rfl) (by kernel_rfl) (by kernel_rfl) (Runs.free rfl) rfl rfl (ov_load_box (i := 1) Tryd.isAgg3 rfl rfl rfl rfl) ?_
      refine AL.any (rs := [5, 13]) (by kernel_rfl) (by decide) ?_
      refine ALs.cons (i := 5) rfl (Runs.free rfl) rfl rfl ?_ ?_
      · skip
        refine os_inline (cap := []) (vs := [(.int .i64 p_a.low), (.int .i64 p_b.low)]) Tryd.call49 rfl rfl rfl Tryd.func49 rfl 8 Tryd.ntmps49 rfl (fun w' s => ?_)
        refine WP.seq ?_
        refine WP.region ?_
        refine WL.quiet (Runs.free rfl) rfl rfl (OV.quiet (ov_assign rfl rfl)) ?_
        refine WL.nil ?_
        refine then_normal ?_
        refine WP.seq ?_
        refine WP.region ?_
        refine WL.quiet (Runs.free rfl) rfl rfl (OV.quiet (ov_move rfl rfl)) ?_
        refine WL.quiet (Runs.free rfl) rfl rfl (OV.quiet (ov_move rfl rfl)) ?_
        refine WL.quiet (Runs.free rfl) rfl rfl (OV.quiet (ov_max rfl rfl rfl)) ?_
        refine WL.quiet (Runs.free rfl) rfl rfl (OV.quiet (ov_assign rfl rfl)) ?_
        refine WL.nil ?_
        refine then_normal ?_
        refine WP.ret ?_
        refine retQ_ret (v := (.int .i64 (if p_b.low > p_a.low then p_b.low else p_a.low))) Tryd.results49 (Res.tmp rfl Res.nil) rfl (fun w' s => ⟨_, ?_, s⟩)
        refine ⟨fun w' s => s, ?_⟩
        refine AL.any (rs := [11, 13]) (by kernel_rfl) (by decide) ?_
        refine ALs.cons (i := 11) rfl (Runs.free rfl) rfl rfl ?_ ?_
        · skip
          refine os_inline (cap := []) (vs := [(.int .i64 p_a.high), (.int .i64 p_b.high)]) Tryd.call49 rfl rfl rfl Tryd.func49 rfl 8 Tryd.ntmps49 rfl (fun w' s => ?_)
          refine WP.seq ?_
          refine WP.region ?_
          refine WL.quiet (Runs.free rfl) rfl rfl (OV.quiet (ov_assign rfl rfl)) ?_
          refine WL.nil ?_
          refine then_normal ?_
          refine WP.seq ?_
          refine WP.region ?_
          refine WL.quiet (Runs.free rfl) rfl rfl (OV.quiet (ov_move rfl rfl)) ?_
          refine WL.quiet (Runs.free rfl) rfl rfl (OV.quiet (ov_move rfl rfl)) ?_
          refine WL.quiet (Runs.free rfl) rfl rfl (OV.quiet (ov_max rfl rfl rfl)) ?_
          refine WL.quiet (Runs.free rfl) rfl rfl (OV.quiet (ov_assign rfl rfl)) ?_
          refine WL.nil ?_
          refine then_normal ?_
          refine WP.ret ?_
          refine retQ_ret (v := (.int .i64 (if p_b.high > p_a.high then p_b.high else p_a.high))) Tryd.results49 (Res.tmp rfl Res.nil) rfl (fun w' s => ⟨_, ?_, s⟩)
          refine ⟨fun w' s => s, ?_⟩
          refine AL.take (i := 12) rfl (by kernel_rfl) (by kernel_rfl) (by kernel_rfl) (Runs.free rfl) rfl rfl (ov_build (r := (.agg #[(.int .i64 (if p_b.low > p_a.low then p_b.low else p_a.low)), (.int .i64 (if p_b.high > p_a.high then p_b.high else p_a.high))])) rfl rfl (fun _ => by kernel_rfl)) ?_
          refine AL.any (rs := [13]) (by kernel_rfl) (by decide) ?_
          refine ALs.cons (i := 13) rfl (Runs.free rfl) rfl rfl ?_ ?_
          · skip
            refine os_alloc (cs := [(.int .i64 0), (.int .i64 0)]) Tryd.zeroValue23 rfl rfl (fun b8 => ?_)
            refine ⟨fun w' s => (s.select [1, 2, 3, 4, 5, 6] (by decide) rfl), ?_⟩
            refine AL.any (rs := [14]) (by kernel_rfl) (by decide) ?_
            refine ALs.cons0 (i := 14) rfl (Runs.free rfl) rfl ?_ ?_
            · skip
              refine os_store (i := 0) (vs := [(.int .i64 (if p_b.low > p_a.low then p_b.low else p_a.low)), (.int .i64 (if p_b.high > p_a.high then p_b.high else p_a.high))]) (cs' := [(.int .i64 (if p_b.low > p_a.low then p_b.low else p_a.low)), (.int .i64 (if p_b.high > p_a.high then p_b.high else p_a.high))]) Tryd.sizeOf23 rfl rfl rfl rfl rfl rfl rfl rfl rfl ?_
              refine ⟨fun w' s => (s.select [1, 2, 3, 4, 5, 6] (by decide) rfl), ?_⟩
              refine AL.done (by kernel_rfl) ?_
              refine then_normal ?_
              exact ⟨b8, (Sub.cons rfl (Sub.cons rfl (Sub.nil _))), fun w' s => (s.select [0, 1, 4, 5, 6] (by decide) rfl), hm⟩
            exact ALs.nil
          exact ALs.nil
        refine ALs.cons (i := 13) rfl (Runs.free rfl) rfl rfl ?_ ?_
        · skip
          refine os_alloc (cs := [(.int .i64 0), (.int .i64 0)]) Tryd.zeroValue23 rfl rfl (fun b9 => ?_)
          refine ⟨fun w' s => (s.select [1, 2, 3, 4, 5, 6] (by decide) rfl), ?_⟩
          refine AL.any (rs := [11]) (by kernel_rfl) (by decide) ?_
          refine ALs.cons (i := 11) rfl (Runs.free rfl) rfl rfl ?_ ?_
          · skip
            refine os_inline (cap := []) (vs := [(.int .i64 p_a.high), (.int .i64 p_b.high)]) Tryd.call49 rfl rfl rfl Tryd.func49 rfl 8 Tryd.ntmps49 rfl (fun w' s => ?_)
            refine WP.seq ?_
            refine WP.region ?_
            refine WL.quiet (Runs.free rfl) rfl rfl (OV.quiet (ov_assign rfl rfl)) ?_
            refine WL.nil ?_
            refine then_normal ?_
            refine WP.seq ?_
            refine WP.region ?_
            refine WL.quiet (Runs.free rfl) rfl rfl (OV.quiet (ov_move rfl rfl)) ?_
            refine WL.quiet (Runs.free rfl) rfl rfl (OV.quiet (ov_move rfl rfl)) ?_
            refine WL.quiet (Runs.free rfl) rfl rfl (OV.quiet (ov_max rfl rfl rfl)) ?_
            refine WL.quiet (Runs.free rfl) rfl rfl (OV.quiet (ov_assign rfl rfl)) ?_
            refine WL.nil ?_
            refine then_normal ?_
            refine WP.ret ?_
            refine retQ_ret (v := (.int .i64 (if p_b.high > p_a.high then p_b.high else p_a.high))) Tryd.results49 (Res.tmp rfl Res.nil) rfl (fun w' s => ⟨_, ?_, s⟩)
            refine ⟨fun w' s => (s.select [1, 2, 3, 4, 5, 6] (by decide) rfl), ?_⟩
            refine AL.take (i := 12) rfl (by kernel_rfl) (by kernel_rfl) (by kernel_rfl) (Runs.free rfl) rfl rfl (ov_build (r := (.agg #[(.int .i64 (if p_b.low > p_a.low then p_b.low else p_a.low)), (.int .i64 (if p_b.high > p_a.high then p_b.high else p_a.high))])) rfl rfl (fun _ => by kernel_rfl)) ?_
            refine AL.any (rs := [14]) (by kernel_rfl) (by decide) ?_
            refine ALs.cons0 (i := 14) rfl (Runs.free rfl) rfl ?_ ?_
            · skip
              refine os_store (i := 0) (vs := [(.int .i64 (if p_b.low > p_a.low then p_b.low else p_a.low)), (.int .i64 (if p_b.high > p_a.high then p_b.high else p_a.high))]) (cs' := [(.int .i64 (if p_b.low > p_a.low then p_b.low else p_a.low)), (.int .i64 (if p_b.high > p_a.high then p_b.high else p_a.high))]) Tryd.sizeOf23 rfl rfl rfl rfl rfl rfl rfl rfl rfl ?_
              refine ⟨fun w' s => (s.select [1, 2, 3, 4, 5, 6] (by decide) rfl), ?_⟩
              refine AL.done (by kernel_rfl) ?_
              refine then_normal ?_
              exact ⟨b9, (Sub.cons rfl (Sub.cons rfl (Sub.nil _))), fun w' s => (s.select [0, 1, 4, 5, 6] (by decide) rfl), hm⟩
            exact ALs.nil
          exact ALs.nil
        exact ALs.nil
      refine ALs.cons (i := 13) rfl (Runs.free rfl) rfl rfl ?_ ?_
      · skip
        refine os_alloc (cs := [(.int .i64 0), (.int .i64 0)]) Tryd.zeroValue23 rfl rfl (fun b10 => ?_)
        refine ⟨fun w' s => (s.select [1, 2, 3, 4, 5, 6] (by decide) rfl), ?_⟩
        refine AL.any (rs := [5]) (by kernel_rfl) (by decide) ?_
        refine ALs.cons (i := 5) rfl (Runs.free rfl) rfl rfl ?_ ?_
        · skip
          refine os_inline (cap := []) (vs := [(.int .i64 p_a.low), (.int .i64 p_b.low)]) Tryd.call49 rfl rfl rfl Tryd.func49 rfl 8 Tryd.ntmps49 rfl (fun w' s => ?_)
          refine WP.seq ?_
          refine WP.region ?_
          refine WL.quiet (Runs.free rfl) rfl rfl (OV.quiet (ov_assign rfl rfl)) ?_
          refine WL.nil ?_
          refine then_normal ?_
          refine WP.seq ?_
          refine WP.region ?_
          refine WL.quiet (Runs.free rfl) rfl rfl (OV.quiet (ov_move rfl rfl)) ?_
          refine WL.quiet (Runs.free rfl) rfl rfl (OV.quiet (ov_move rfl rfl)) ?_
          refine WL.quiet (Runs.free rfl) rfl rfl (OV.quiet (ov_max rfl rfl rfl)) ?_
          refine WL.quiet (Runs.free rfl) rfl rfl (OV.quiet (ov_assign rfl rfl)) ?_
          refine WL.nil ?_
          refine then_normal ?_
          refine WP.ret ?_
          refine retQ_ret (v := (.int .i64 (if p_b.low > p_a.low then p_b.low else p_a.low))) Tryd.results49 (Res.tmp rfl Res.nil) rfl (fun w' s => ⟨_, ?_, s⟩)
          refine ⟨fun w' s => (s.select [1, 2, 3, 4, 5, 6] (by decide) rfl), ?_⟩
          refine AL.any (rs := [11]) (by kernel_rfl) (by decide) ?_
          refine ALs.cons (i := 11) rfl (Runs.free rfl) rfl rfl ?_ ?_
          · skip
            refine os_inline (cap := []) (vs := [(.int .i64 p_a.high), (.int .i64 p_b.high)]) Tryd.call49 rfl rfl rfl Tryd.func49 rfl 8 Tryd.ntmps49 rfl (fun w' s => ?_)
            refine WP.seq ?_
            refine WP.region ?_
            refine WL.quiet (Runs.free rfl) rfl rfl (OV.quiet (ov_assign rfl rfl)) ?_
            refine WL.nil ?_
            refine then_normal ?_
            refine WP.seq ?_
            refine WP.region ?_
            refine WL.quiet (Runs.free rfl) rfl rfl (OV.quiet (ov_move rfl rfl)) ?_
            refine WL.quiet (Runs.free rfl) rfl rfl (OV.quiet (ov_move rfl rfl)) ?_
            refine WL.quiet (Runs.free rfl) rfl rfl (OV.quiet (ov_max rfl rfl rfl)) ?_
            refine WL.quiet (Runs.free rfl) rfl rfl (OV.quiet (ov_assign rfl rfl)) ?_
            refine WL.nil ?_
            refine then_normal ?_
            refine WP.ret ?_
            refine retQ_ret (v := (.int .i64 (if p_b.high > p_a.high then p_b.high else p_a.high))) Tryd.results49 (Res.tmp rfl Res.nil) rfl (fun w' s => ⟨_, ?_, s⟩)
            refine ⟨fun w' s => (s.select [1, 2, 3, 4, 5, 6] (by decide) rfl), ?_⟩
            refine AL.take (i := 12) rfl (by kernel_rfl) (by kernel_rfl) (by kernel_rfl) (Runs.free rfl) rfl rfl (ov_build (r := (.agg #[(.int .i64 (if p_b.low > p_a.low then p_b.low else p_a.low)), (.int .i64 (if p_b.high > p_a.high then p_b.high else p_a.high))])) rfl rfl (fun _ => by kernel_rfl)) ?_
            refine AL.any (rs := [14]) (by kernel_rfl) (by decide) ?_
            refine ALs.cons0 (i := 14) rfl (Runs.free rfl) rfl ?_ ?_
            · skip
              refine os_store (i := 0) (vs := [(.int .i64 (if p_b.low > p_a.low then p_b.low else p_a.low)), (.int .i64 (if p_b.high > p_a.high then p_b.high else p_a.high))]) (cs' := [(.int .i64 (if p_b.low > p_a.low then p_b.low else p_a.low)), (.int .i64 (if p_b.high > p_a.high then p_b.high else p_a.high))]) Tryd.sizeOf23 rfl rfl rfl rfl rfl rfl rfl rfl rfl ?_
              refine ⟨fun w' s => (s.select [1, 2, 3, 4, 5, 6] (by decide) rfl), ?_⟩
              refine AL.done (by kernel_rfl) ?_
              refine then_normal ?_
              exact ⟨b10, (Sub.cons rfl (Sub.cons rfl (Sub.nil _))), fun w' s => (s.select [0, 1, 4, 5, 6] (by decide) rfl), hm⟩
            exact ALs.nil
          exact ALs.nil
        exact ALs.nil
      exact ALs.nil
    · rintro g' S' ⟨b11, hsub1, hS1, hm⟩
      refine WP.sub hsub1 (WP.weaken hS1 ?_)
      replace hm := hk1.symm.trans hm
      refine WP.seq ?_
      refine WP.seq ?_
      refine WP.region ?_
      refine WL.quiet (Runs.free rfl) rfl rfl (OV.quiet (ov_fieldAddr Tryd.underlying23 rfl rfl rfl Tryd.sizeOf3 rfl rfl)) ?_
      refine WL.quiet (Runs.free rfl) rfl rfl (OV.quiet (ov_load_box (i := 0) Tryd.isAgg3 rfl rfl rfl rfl)) ?_
      refine WL.quiet (Runs.free rfl) rfl rfl (OV.quiet (ov_gtr rfl rfl rfl)) ?_
      refine WL.nil ?_
      refine then_normal ?_
      refine WP.cond rfl (fun hc3 => ?_) (fun hc3 => ?_)
      · replace hm := ite_t hc3 hm
        refine WP.seq ?_
        refine WP.region ?_
        refine WL.quiet (Runs.free rfl) rfl rfl (OV.quiet (ov_build (r := (.agg #[(.int .i64 0), (.int .i64 0)])) rfl rfl (fun _ => by kernel_rfl))) ?_
        refine WL.step0 (Runs.free rfl) rfl (os_store (i := 1) (vs := [(.int .i64 0), (.int .i64 0)]) (cs' := [(.int .i64 0), (.int .i64 0)]) Tryd.sizeOf23 rfl rfl rfl rfl rfl rfl rfl rfl rfl ?_)
        refine WL.quiet (Runs.free rfl) rfl rfl (OV.quiet (ov_assign rfl rfl)) ?_
        refine WL.nil ?_
        refine then_normal ?_
        refine WP.ret ?_
        refine then_ret ?_
        refine retQ_ret (v := (.tuple #[(.agg #[(.int .i64 0), (.int .i64 0)]), (.int .i64 11)])) Tryd.results47 (Res.cell rfl (box_loads (i := 1) Tryd.isAgg23 Tryd.sizeOf23 rfl rfl) (Res.tmp rfl Res.nil)) rfl (fun w' s => ⟨_, ?_, s⟩)
        refine WL.quiet (Runs.free rfl) rfl rfl (OV.quiet (ov_extract rfl rfl rfl)) ?_
        refine WL.quiet (Runs.free rfl) rfl rfl (OV.quiet (ov_extract rfl rfl rfl)) ?_
        refine WL.step0 (Runs.free rfl) rfl (os_store (i := 2) (vs := [(.int .i64 0), (.int .i64 0)]) (cs' := [(.int .i64 0), (.int .i64 0)]) Tryd.sizeOf23 rfl rfl rfl rfl rfl rfl rfl rfl rfl ?_)
        refine WL.quiet (Runs.free rfl) rfl rfl (OV.quiet (ov_assign rfl rfl)) ?_
        refine WL.nil ?_
        refine then_normal ?_
        refine WP.ret ?_
        obtain rfl := Option.some.inj hm
        refine retQ_ret Tryd.results18 (Res.cell rfl (box_loads (i := 2) Tryd.isAgg23 Tryd.sizeOf23 rfl rfl) (Res.tmp rfl Res.nil)) rfl (fun w' s => ⟨s.below, ?_⟩)
        exact rfl
      · replace hm := ite_f hc3 hm
        refine WP.skip ?_
        refine then_normal ?_
        refine WP.seq ?_
        refine WP.region ?_
        refine WL.quiet (Runs.free rfl) rfl rfl (OV.quiet (ov_load_whole (i := 0) Tryd.isAgg23 Tryd.sizeOf23 rfl rfl rfl rfl)) ?_
        refine WL.step0 (Runs.free rfl) rfl (os_store (i := 1) (vs := [(.int .i64 (if p_b.low > p_a.low then p_b.low else p_a.low)), (.int .i64 (if p_b.high > p_a.high then p_b.high else p_a.high))]) (cs' := [(.int .i64 (if p_b.low > p_a.low then p_b.low else p_a.low)), (.int .i64 (if p_b.high > p_a.high then p_b.high else p_a.high))]) Tryd.sizeOf23 rfl rfl rfl rfl rfl rfl rfl rfl rfl ?_)
        refine WL.quiet (Runs.free rfl) rfl rfl (OV.quiet (ov_assign rfl rfl)) ?_
        refine WL.nil ?_
        refine then_normal ?_
        refine WP.ret ?_
        refine retQ_ret (v := (.tuple #[(.agg #[(.int .i64 (if p_b.low > p_a.low then p_b.low else p_a.low)), (.int .i64 (if p_b.high > p_a.high then p_b.high else p_a.high))]), (.int .i64 0)])) Tryd.results47 (Res.cell rfl (box_loads (i := 1) Tryd.isAgg23 Tryd.sizeOf23 rfl rfl) (Res.tmp rfl Res.nil)) rfl (fun w' s => ⟨_, ?_, s⟩)
        refine WL.quiet (Runs.free rfl) rfl rfl (OV.quiet (ov_extract rfl rfl rfl)) ?_
        refine WL.quiet (Runs.free rfl) rfl rfl (OV.quiet (ov_extract rfl rfl rfl)) ?_
        refine WL.step0 (Runs.free rfl) rfl (os_store (i := 2) (vs := [(.int .i64 (if p_b.low > p_a.low then p_b.low else p_a.low)), (.int .i64 (if p_b.high > p_a.high then p_b.high else p_a.high))]) (cs' := [(.int .i64 (if p_b.low > p_a.low then p_b.low else p_a.low)), (.int .i64 (if p_b.high > p_a.high then p_b.high else p_a.high))]) Tryd.sizeOf23 rfl rfl rfl rfl rfl rfl rfl rfl rfl ?_)
        refine WL.quiet (Runs.free rfl) rfl rfl (OV.quiet (ov_assign rfl rfl)) ?_
        refine WL.nil ?_
        refine then_normal ?_
        refine WP.ret ?_
        obtain rfl := Option.some.inj hm
        refine retQ_ret Tryd.results18 (Res.cell rfl (box_loads (i := 2) Tryd.isAgg23 Tryd.sizeOf23 rfl rfl) (Res.tmp rfl Res.nil)) rfl (fun w' s => ⟨s.below, ?_⟩)
        exact rfl

theorem timespan_Earlier_con (p_a : Span) (p_b : Span) (w : World) (H : Heap) (hH : Le H (hp w)) (hG : Glob H) (r : (Span × Int)) (hm : timespan_Earlier p_a p_b = some r) :
    Con Tryd.prog 19 [(.agg #[(.int .i64 p_a.low), (.int .i64 p_a.high)]), (.agg #[(.int .i64 p_b.low), (.int .i64 p_b.high)])] w H (fun v _ => v = (.tuple #[(.agg #[(.int .i64 r.1.low), (.int .i64 r.1.high)]), (.int .i64 r.2)])) := by
  unfold timespan_Earlier at hm
  refine con_of hH Tryd.func19 rfl 11 Tryd.ntmps19 rfl ?_
  refine WP.seq ?_
  refine WP.region ?_
  refine WL.step (Runs.free rfl) rfl rfl (os_box (cs := [(.int .i64 p_a.low), (.int .i64 p_a.high)]) rfl rfl rfl (fun b1 => ?_))
  refine WL.step (Runs.free rfl) rfl rfl (os_box (cs := [(.int .i64 p_b.low), (.int .i64 p_b.high)]) rfl rfl rfl (fun b2 => ?_))
  refine WL.step (Runs.free rfl) rfl rfl (os_alloc (cs := [(.int .i64 0), (.int .i64 0)]) Tryd.zeroValue23 rfl rfl (fun b3 => ?_))
  refine WL.quiet (Runs.free rfl) rfl rfl (OV.quiet (ov_assign rfl rfl)) ?_
  refine WL.nil ?_
  refine then_normal ?_
  refine WP.seq ?_
  refine WP.region ?_
  refine WL.quiet (Runs.free rfl) rfl rfl (OV.quiet (ov_load_whole (i := 2) Tryd.isAgg23 Tryd.sizeOf23 rfl rfl rfl rfl)) ?_
  refine WL.quiet (Runs.free rfl) rfl rfl (OV.quiet (ov_load_whole (i := 1) Tryd.isAgg23 Tryd.sizeOf23 rfl rfl rfl rfl)) ?_
  refine WL.step (Runs.free rfl) rfl rfl (os_inline (cap := []) (vs := [(.agg #[(.int .i64 p_a.low), (.int .i64 p_a.high)]), (.agg #[(.int .i64 p_b.low), (.int .i64 p_b.high)]), (.func (.func 50) #[] #[])]) Tryd.call47 rfl rfl rfl Tryd.func47 rfl 36 Tryd.ntmps47 rfl (fun w' s => ?_))
  refine WP.seq ?_
  refine WP.region ?_
  refine WL.step (Runs.free rfl) rfl rfl (os_box (cs := [(.int .i64 p_a.low), (.int .i64 p_a.high)]) rfl rfl rfl (fun b4 => ?_))
  refine WL.step (Runs.free rfl) rfl rfl (os_box (cs := [(.int .i64 p_b.low), (.int .i64 p_b.high)]) rfl rfl rfl (fun b5 => ?_))
  refine WL.step (Runs.free rfl) rfl rfl (os_alloc (cs := [(.int .i64 0), (.int .i64 0)]) Tryd.zeroValue23 rfl rfl (fun b6 => ?_))
  refine WL.quiet (Runs.free rfl) rfl rfl (OV.quiet (ov_assign rfl rfl)) ?_
  refine WL.nil ?_
  refine then_normal ?_
  refine WP.seq ?_
  refine WP.seq ?_
  refine WP.region ?_
  refine WL.quiet (Runs.free rfl) rfl rfl (OV.quiet (ov_load_whole (i := 2) Tryd.isAgg23 Tryd.sizeOf23 rfl rfl rfl rfl)) ?_
  refine WL.quiet (Runs.free rfl) rfl rfl (OV.quiet (ov_load_whole (i := 1) Tryd.isAgg23 Tryd.sizeOf23 rfl rfl rfl rfl)) ?_
  have rl1 : RL H encSpan ([p_a, p_b] : List Span) [(.int .i64 p_a.low), (.int .i64 p_a.high), (.int .i64 p_b.low), (.int .i64 p_b.high)] := RL.cons (cs := [(.int .i64 p_a.low), (.int .i64 p_a.high)]) (xs := [(.int .i64 p_b.low), (.int .i64 p_b.high)]) rfl (RL.cons (cs := [(.int .i64 p_b.low), (.int .i64 p_b.high)]) (xs := []) rfl (RL.nil _ _))
  refine WL.step (Runs.free rfl) rfl rfl (os_buildSlice (cs := [(.int .i64 p_a.low), (.int .i64 p_a.high), (.int .i64 p_b.low), (.int .i64 p_b.high)]) (E := 23) (sz := 2) rfl rfl (fun _ => by kernel_rfl) rfl (by decide) (fun b7 => ?_))
  refine WL.held rl1 (fun H1 hc1 hle1 h1 => ?_)
  replace hG := hG.mono hle1
  obtain ⟨r1, e1, hm⟩ := bind_some hm
  refine WL.quiet (Runs.free rfl) rfl rfl (oq_con (r := (.int .i64 r1)) Tryd.call54 rfl rfl (fun w' s => ⟨_, (timespan_checks_con ([p_a, p_b] : List Span) (some ⟨b7, 0, none⟩) 2  w' H1 s.hold h1 hc1 hG r1 e1)⟩)) ?_
  refine WL.quiet (Runs.free rfl) rfl rfl (OV.quiet (ov_assign rfl rfl)) ?_
  refine WL.nil ?_
  refine then_normal ?_
  refine WP.seq ?_
  refine WP.region ?_
  refine WL.quiet (Runs.free rfl) rfl rfl (OV.quiet (ov_move rfl rfl)) ?_
  refine WL.quiet (Runs.free rfl) rfl rfl (OV.quiet (ov_neq rfl rfl rfl)) ?_
  refine WL.nil ?_
  refine then_normal ?_
  refine WP.cond rfl (fun hc2 => ?_) (fun hc2 => ?_)
  · replace hm := ite_t hc2 hm
    refine WP.seq ?_
    refine WP.region ?_
    refine WL.quiet (Runs.free rfl) rfl rfl (OV.quiet (ov_build (r := (.agg #[(.int .i64 0), (.int .i64 0)])) rfl rfl (fun _ => by kernel_rfl))) ?_
    refine WL.quiet (Runs.free rfl) rfl rfl (OV.quiet (ov_move rfl rfl)) ?_
    refine WL.step0 (Runs.free rfl) rfl (os_store (i := 0) (vs := [(.int .i64 0), (.int .i64 0)]) (cs' := [(.int .i64 0), (.int .i64 0)]) Tryd.sizeOf23 rfl rfl rfl rfl rfl rfl rfl rfl rfl ?_)
    refine WL.quiet (Runs.free rfl) rfl rfl (OV.quiet (ov_assign rfl rfl)) ?_
    refine WL.nil ?_
    refine then_normal ?_
    refine WP.ret ?_
    refine then_ret ?_
    refine retQ_ret (v := (.tuple #[(.agg #[(.int .i64 0), (.int .i64 0)]), (.int .i64 r1)])) Tryd.results47 (Res.cell rfl (box_loads (i := 0) Tryd.isAgg23 Tryd.sizeOf23 rfl rfl) (Res.tmp rfl Res.nil)) rfl (fun w' s => ⟨_, ?_, s⟩)
    refine WL.quiet (Runs.free rfl) rfl rfl (OV.quiet (ov_extract rfl rfl rfl)) ?_
    refine WL.quiet (Runs.free rfl) rfl rfl (OV.quiet (ov_extract rfl rfl rfl)) ?_
    refine WL.step0 (Runs.free rfl) rfl (os_store (i := 3) (vs := [(.int .i64 0), (.int .i64 0)]) (cs' := [(.int .i64 0), (.int .i64 0)]) Tryd.sizeOf23 rfl rfl rfl rfl rfl rfl rfl rfl rfl ?_)
    refine WL.quiet (Runs.free rfl) rfl rfl (OV.quiet (ov_assign rfl rfl)) ?_
    refine WL.nil ?_
    refine then_normal ?_
    refine WP.ret ?_
    obtain rfl := Option.some.inj hm
    refine retQ_ret Tryd.results19 (Res.cell rfl (box_loads (i := 3) Tryd.isAgg23 Tryd.sizeOf23 rfl rfl) (Res.tmp rfl Res.nil)) rfl (fun w' s => ⟨s.below, ?_⟩)
    exact rfl
  · replace hm := ite_f hc2 hm
    refine WP.skip ?_
    refine then_normal ?_
    obtain ⟨k1, hk1, hm⟩ := joinK_some hm
    refine WP.seq_join (fun g' S' => ∃ (b11 : Nat), Sub [(6, (pB b6 0)), (9, (pB b11 0))] g' ∧ (∀ w', S' w' → St w H [.blk b11 23 [(.int .i64 (if p_b.low < p_a.low then p_b.low else p_a.low)), (.int .i64 (if p_b.high < p_a.high then p_b.high else p_a.high))], .blk b6 23 [(.int .i64 0), (.int .i64 0)], .blk b3 23 [(.int .i64 0), (.int .i64 0)], .blk b2 23 [(.int .i64 p_b.low), (.int .i64 p_b.high)], .blk b1 23 [(.int .i64 p_a.low), (.int .i64 p_a.high)]] H1 w') ∧ k1 = some r) ?_ ?_
    · skip
      refine WP.region_any (S₀ := St w H [.blk b6 23 [(.int .i64 0), (.int .i64 0)], .blk b5 23 [(.int .i64 p_b.low), (.int .i64 p_b.high)], .blk b4 23 [(.int .i64 p_a.low), (.int .i64 p_a.high)], .blk b3 23 [(.int .i64 0), (.int .i64 0)], .blk b2 23 [(.int .i64 p_b.low), (.int .i64 p_b.high)], .blk b1 23 [(.int .i64 p_a.low), (.int .i64 p_a.high)]] H1) 15 rfl (by kernel_rfl) (fun w' s => s) (fun _ s => s.drew) ?_
      refine AL.take (i := 0) rfl (by kernel_rfl) (by kernel_rfl) (by kernel_rfl) (Runs.free rfl) rfl rfl (ov_move rfl rfl) ?_
      refine AL.take (i := 1) rfl (by kernel_rfl) (by kernel_rfl) (by kernel_rfl) (Runs.free rfl) rfl rfl (ov_fieldAddr Tryd.underlying23 rfl rfl rfl Tryd.sizeOf3 rfl rfl) ?_
      refine AL.take (i := 2) rfl (by kernel_rfl) (by kernel_rfl) (by kernel_rfl) (Runs.free rfl) rfl rfl (ov_load_box (i := 2) Tryd.isAgg3 rfl rfl rfl rfl) ?_
      refine AL.take (i := 3) rfl (by kernel_rfl) (by kernel_rfl) (by kernel_rfl) (Runs.free rfl) rfl rfl (ov_fieldAddr Tryd.underlying23 rfl rfl rfl Tryd.sizeOf3 rfl rfl) ?_
      refine AL.take (i := 4) rfl (by kernel_rfl) (by kernel_rfl) (by kernel_rfl) (Runs.free rfl) rfl rfl (ov_load_box (i := 1) Tryd.isAgg3 rfl rfl rfl rfl) ?_
      refine AL.take (i := 6) rfl (by kernel_rfl) (by kernel_rfl) (by kernel_rfl) (Runs.free rfl) rfl rfl (ov_move rfl rfl) ?_
      refine AL.take (i := 7) rfl (by kernel_rfl) (by kernel_rfl) (by kernel_rfl) (Runs.free rfl) rfl rfl (ov_fieldAddr Tryd.underlying23 rfl rfl rfl Tryd.sizeOf3 rfl rfl) ?_
      refine AL.take (i := 8) rfl (by kernel_rfl) (by kernel_rfl) (by kernel_rfl) (Runs.free rfl) rfl rfl (ov_load_box (i := 2) Tryd.isAgg3 rfl rfl rfl rfl) ?_
      refine AL.take (i := 9) rfl (by kernel_rfl) (by kernel_rfl) (by kernel_rfl) (Runs.free rfl) rfl rfl (ov_fieldAddr Tryd.underlying23 rfl rfl rfl Tryd.sizeOf3 rfl rfl) ?_
      refine AL.take (i := 10) rfl (by kernel_rfl) (by kernel_rfl) (by kernel_rfl) (Runs.free rfl) rfl rfl (ov_load_box (i := 1) Tryd.isAgg3 rfl rfl rfl rfl) ?_
      refine AL.any (rs := [5, 13]) (by kernel_rfl) (by decide) ?_
      refine ALs.cons (i := 5) rfl (Runs.free rfl) rfl rfl ?_ ?_
      · skip
        refine os_inline (cap := []) (vs := [(.int .i64 p_a.low), (.int .i64 p_b.low)]) Tryd.call50 rfl rfl rfl Tryd.func50 rfl 8 Tryd.ntmps50 rfl (fun w' s => ?_)
        refine WP.seq ?_
        refine WP.region ?_
        refine WL.quiet (Runs.free rfl) rfl rfl (OV.quiet (ov_assign rfl rfl)) ?_
        refine WL.nil ?_
        refine then_normal ?_
        refine WP.seq ?_
        refine WP.region ?_
        refine WL.quiet (Runs.free rfl) rfl rfl (OV.quiet (ov_move rfl rfl)) ?_
        refine WL.quiet (Runs.free rfl) rfl rfl (OV.quiet (ov_move rfl rfl)) ?_
        refine WL.quiet (Runs.free rfl) rfl rfl (OV.quiet (ov_min rfl rfl rfl)) ?_
        refine WL.quiet (Runs.free rfl) rfl rfl (OV.quiet (ov_assign rfl rfl)) ?_
        refine WL.nil ?_
        refine then_normal ?_
        refine WP.ret ?_
        refine retQ_ret (v := (.int .i64 (if p_b.low < p_a.low then p_b.low else p_a.low))) Tryd.results50 (Res.tmp rfl Res.nil) rfl (fun w' s => ⟨_, ?_, s⟩)
        refine ⟨fun w' s => s, ?_⟩
        refine AL.any (rs := [11, 13]) (by kernel_rfl) (by decide) ?_
        refine ALs.cons (i := 11) rfl (Runs.free rfl) rfl rfl ?_ ?_
        · skip
          refine os_inline (cap := []) (vs := [(.int .i64 p_a.high), (.int .i64 p_b.high)]) Tryd.call50 rfl rfl rfl Tryd.func50 rfl 8 Tryd.ntmps50 rfl (fun w' s => ?_)
          refine WP.seq ?_
          refine WP.region ?_
          refine WL.quiet (Runs.free rfl) rfl rfl (OV.quiet (ov_assign rfl rfl)) ?_
          refine WL.nil ?_
          refine then_normal ?_
          refine WP.seq ?_
          refine WP.region ?_
          refine WL.quiet (Runs.free rfl) rfl rfl (OV.quiet (ov_move rfl rfl)) ?_
          refine WL.quiet (Runs.free rfl) rfl rfl (OV.quiet (ov_move rfl rfl)) ?_
          refine WL.quiet (Runs.free rfl) rfl rfl (OV.quiet (ov_min rfl rfl rfl)) ?_
          refine WL.quiet (Runs.free rfl) rfl rfl (OV.quiet (ov_assign rfl rfl)) ?_
          refine WL.nil ?_
          refine then_normal ?_
          refine WP.ret ?_
          refine retQ_ret (v := (.int .i64 (if p_b.high < p_a.high then p_b.high else p_a.high))) Tryd.results50 (Res.tmp rfl Res.nil) rfl (fun w' s => ⟨_, ?_, s⟩)
          refine ⟨fun w' s => s, ?_⟩
          refine AL.take (i := 12) rfl (by kernel_rfl) (by kernel_rfl) (by kernel_rfl) (Runs.free rfl) rfl rfl (ov_build (r := (.agg #[(.int .i64 (if p_b.low < p_a.low then p_b.low else p_a.low)), (.int .i64 (if p_b.high < p_a.high then p_b.high else p_a.high))])) rfl rfl (fun _ => by kernel_rfl)) ?_
          refine AL.any (rs := [13]) (by kernel_rfl) (by decide) ?_
          refine ALs.cons (i := 13) rfl (Runs.free rfl) rfl rfl ?_ ?_
          · skip
            refine os_alloc (cs := [(.int .i64 0), (.int .i64 0)]) Tryd.zeroValue23 rfl rfl (fun b8 => ?_)
            refine ⟨fun w' s => (s.select [1, 2, 3, 4, 5, 6] (by decide) rfl), ?_⟩
            refine AL.any (rs := [14]) (by kernel_rfl) (by decide) ?_
            refine ALs.cons0 (i := 14) rfl (Runs.free rfl) rfl ?_ ?_
            · skip
              refine os_store (i := 0) (vs := [(.int .i64 (if p_b.low < p_a.low then p_b.low else p_a.low)), (.int .i64 (if p_b.high < p_a.high then p_b.high else p_a.high))]) (cs' := [(.int .i64 (if p_b.low < p_a.low then p_b.low else p_a.low)), (.int .i64 (if p_b.high < p_a.high then p_b.high else p_a.high))]) Tryd.sizeOf23 rfl rfl rfl rfl rfl rfl rfl rfl rfl ?_
              refine ⟨fun w' s => (s.select [1, 2, 3, 4, 5, 6] (by decide) rfl), ?_⟩
              refine AL.done (by kernel_rfl) ?_
              refine then_normal ?_
              exact ⟨b8, (Sub.cons rfl (Sub.cons rfl (Sub.nil _))), fun w' s => (s.select [0, 1, 4, 5, 6] (by decide) rfl), hm⟩
            exact ALs.nil
          exact ALs.nil
        refine ALs.cons (i := 13) rfl (Runs.free rfl) rfl rfl ?_ ?_
        · skip
          refine os_alloc (cs := [(.int .i64 0), (.int .i64 0)]) Tryd.zeroValue23 rfl rfl (fun b9 => ?_)
          refine ⟨fun w' s => (s.select [1, 2, 3, 4, 5, 6] (by decide) rfl), ?_⟩
          refine AL.any (rs := [11]) (by kernel_rfl) (by decide) ?_
          refine ALs.cons (i := 11) rfl (Runs.free rfl) rfl rfl ?_ ?_
          · skip
            refine os_inline (cap := []) (vs := [(.int .i64 p_a.high), (.int .i64 p_b.high)]) Tryd.call50 rfl rfl rfl Tryd.func50 rfl 8 Tryd.ntmps50 rfl (fun w' s => ?_)
            refine WP.seq ?_
            refine WP.region ?_
            refine WL.quiet (Runs.free rfl) rfl rfl (OV.quiet (ov_assign rfl rfl)) ?_
            refine WL.nil ?_
            refine then_normal ?_
            refine WP.seq ?_
            refine WP.region ?_
            refine WL.quiet (Runs.free rfl) rfl rfl (OV.quiet (ov_move rfl rfl)) ?_
            refine WL.quiet (Runs.free rfl) rfl rfl (OV.quiet (ov_move rfl rfl)) ?_
            refine WL.quiet (Runs.free rfl) rfl rfl (OV.quiet (ov_min rfl rfl rfl)) ?_
            refine WL.quiet (Runs.free rfl) rfl rfl (OV.quiet (ov_assign rfl rfl)) ?_
            refine WL.nil ?_
            refine then_normal ?_
            refine WP.ret ?_
            refine retQ_ret (v := (.int .i64 (if p_b.high < p_a.high then p_b.high else p_a.high))) Tryd.results50 (Res.tmp rfl Res.nil) rfl (fun w' s => ⟨_, ?_, s⟩)
            refine ⟨fun w' s => (s.select [1, 2, 3, 4, 5, 6] (by decide) rfl), ?_⟩
            refine AL.take (i := 12) rfl (by kernel_rfl) (by kernel_rfl) (by kernel_rfl) (Runs.free rfl) rfl rfl (ov_build (r := (.agg #[(.int .i64 (if p_b.low < p_a.low then p_b.low else p_a.low)), (.int .i64 (if p_b.high < p_a.high then p_b.high else p_a.high))])) rfl rfl (fun _ => by kernel_rfl)) ?_
            refine AL.any (rs := [14]) (by kernel_rfl) (by decide) ?_
            refine ALs.cons0 (i := 14) rfl (Runs.free rfl) rfl ?_ ?_
            · skip
              refine os_store (i := 0) (vs := [(.int .i64 (if p_b.low < p_a.low then p_b.low else p_a.low)), (.int .i64 (if p_b.high < p_a.high then p_b.high else p_a.high))]) (cs' := [(.int .i64 (if p_b.low < p_a.low then p_b.low else p_a.low)), (.int .i64 (if p_b.high < p_a.high then p_b.high else p_a.high))]) Tryd.sizeOf23 rfl rfl rfl rfl rfl rfl rfl rfl rfl ?_
              refine ⟨fun w' s => (s.select [1, 2, 3, 4, 5, 6] (by decide) rfl), ?_⟩
              refine AL.done (by kernel_rfl) ?_
              refine then_normal ?_
              exact ⟨b9, (Sub.cons rfl (Sub.cons rfl (Sub.nil _))), fun w' s => (s.select [0, 1, 4, 5, 6] (by decide) rfl), hm⟩
            exact ALs.nil
          exact ALs.nil
        exact ALs.nil
      refine ALs.cons (i := 13) rfl (Runs.free rfl) rfl rfl ?_ ?_
      · skip
        refine os_alloc (cs := [(.int .i64 0), (.int .i64 0)]) Tryd.zeroValue23 rfl rfl (fun b10 => ?_)
        refine ⟨fun w' s => (s.select [1, 2, 3, 4, 5, 6] (by decide) rfl), ?_⟩
        refine AL.any (rs := [5]) (by kernel_rfl) (by decide) ?_
        refine ALs.cons (i := 5) rfl (Runs.free rfl) rfl rfl ?_ ?_
        · skip
          refine os_inline (cap := []) (vs := [(.int .i64 p_a.low), (.int .i64 p_b.low)]) Tryd.call50 rfl rfl rfl Tryd.func50 rfl 8 Tryd.ntmps50 rfl (fun w' s => ?_)
          refine WP.seq ?_
          refine WP.region ?_
          refine WL.quiet (Runs.free rfl) rfl rfl (OV.quiet (ov_assign rfl rfl)) ?_
          refine WL.nil ?_
          refine then_normal ?_
          refine WP.seq ?_
          refine WP.region ?_
          refine WL.quiet (Runs.free rfl) rfl rfl (OV.quiet (ov_move rfl rfl)) ?_
          refine WL.quiet (Runs.free rfl) rfl rfl (OV.quiet (ov_move rfl rfl)) ?_
          refine WL.quiet (Runs.free rfl) rfl rfl (OV.quiet (ov_min rfl rfl rfl)) ?_
          refine WL.quiet (Runs.free rfl) rfl rfl (OV.quiet (ov_assign rfl rfl)) ?_
          refine WL.nil ?_
          refine then_normal ?_
          refine WP.ret ?_
          refine retQ_ret (v := (.int .i64 (if p_b.low < p_a.low then p_b.low else p_a.low))) Tryd.results50 (Res.tmp rfl Res.nil) rfl (fun w' s => ⟨_, ?_, s⟩)
          refine ⟨fun w' s => (s.select [1, 2, 3, 4, 5, 6] (by decide) rfl), ?_⟩
          refine AL.any (rs := [11]) (by kernel_rfl) (by decide) ?_
          refine ALs.cons (i := 11) rfl (Runs.free rfl) rfl rfl ?_ ?_
          · skip
            refine os_inline (cap := []) (vs := [(.int .i64 p_a.high), (.int .i64 p_b.high)]) Tryd.call50 rfl rfl rfl Tryd.func50 rfl 8 Tryd.ntmps50 rfl (fun w' s => ?_)
            refine WP.seq ?_
            refine WP.region ?_
            refine WL.quiet (Runs.free rfl) rfl rfl (OV.quiet (ov_assign rfl rfl)) ?_
            refine WL.nil ?_
            refine then_normal ?_
            refine WP.seq ?_
            refine WP.region ?_
            refine WL.quiet (Runs.free rfl) rfl rfl (OV.quiet (ov_move rfl rfl)) ?_
            refine WL.quiet (Runs.free rfl) rfl rfl (OV.quiet (ov_move rfl rfl)) ?_
            refine WL.quiet (Runs.free rfl) rfl rfl (OV.quiet (ov_min rfl rfl rfl)) ?_
            refine WL.quiet (Runs.free rfl) rfl rfl (OV.quiet (ov_assign rfl rfl)) ?_
            refine WL.nil ?_
            refine then_normal ?_
            refine WP.ret ?_
            refine retQ_ret (v := (.int .i64 (if p_b.high < p_a.high then p_b.high else p_a.high))) Tryd.results50 (Res.tmp rfl Res.nil) rfl (fun w' s => ⟨_, ?_, s⟩)
            refine ⟨fun w' s => (s.select [1, 2, 3, 4, 5, 6] (by decide) rfl), ?_⟩
            refine AL.take (i := 12) rfl (by kernel_rfl) (by kernel_rfl) (by kernel_rfl) (Runs.free rfl) rfl rfl (ov_build (r := (.agg #[(.int .i64 (if p_b.low < p_a.low then p_b.low else p_a.low)), (.int .i64 (if p_b.high < p_a.high then p_b.high else p_a.high))])) rfl rfl (fun _ => by kernel_rfl)) ?_
            refine AL.any (rs := [14]) (by kernel_rfl) (by decide) ?_
            refine ALs.cons0 (i := 14) rfl (Runs.free rfl) rfl ?_ ?_
            · skip
              refine os_store (i := 0) (vs := [(.int .i64 (if p_b.low < p_a.low then p_b.low else p_a.low)), (.int .i64 (if p_b.high < p_a.high then p_b.high else p_a.high))]) (cs' := [(.int .i64 (if p_b.low < p_a.low then p_b.low else p_a.low)), (.int .i64 (if p_b.high < p_a.high then p_b.high else p_a.high))]) Tryd.sizeOf23 rfl rfl rfl rfl rfl rfl rfl rfl rfl ?_
              refine ⟨fun w' s => (s.select [1, 2, 3, 4, 5, 6] (by decide) rfl), ?_⟩
              refine AL.done (by kernel_rfl) ?_
              refine then_normal ?_
              exact ⟨b10, (Sub.cons rfl (Sub.cons rfl (Sub.nil _))), fun w' s => (s.select [0, 1, 4, 5, 6] (by decide) rfl), hm⟩
            exact ALs.nil
          exact ALs.nil
        exact ALs.nil
      exact ALs.nil
    · rintro g' S' ⟨b11, hsub1, hS1, hm⟩
      refine WP.sub hsub1 (WP.weaken hS1 ?_)
      replace hm := hk1.symm.trans hm
      refine WP.seq ?_
      refine WP.seq ?_
      refine WP.region ?_
      refine WL.quiet (Runs.free rfl) rfl rfl (OV.quiet (ov_fieldAddr Tryd.underlying23 rfl rfl rfl Tryd.sizeOf3 rfl rfl)) ?_
      refine WL.quiet (Runs.free rfl) rfl rfl (OV.quiet (ov_load_box (i := 0) Tryd.isAgg3 rfl rfl rfl rfl)) ?_
      refine WL.quiet (Runs.free rfl) rfl rfl (OV.quiet (ov_gtr rfl rfl rfl)) ?_
      refine WL.nil ?_
      refine then_normal ?_
      refine WP.cond rfl (fun hc3 => ?_) (fun hc3 => ?_)
      · replace hm := ite_t hc3 hm
        refine WP.seq ?_
        refine WP.region ?_
        refine WL.quiet (Runs.free rfl) rfl rfl (OV.quiet (ov_build (r := (.agg #[(.int .i64 0), (.int .i64 0)])) rfl rfl (fun _ => by kernel_rfl))) ?_
        refine WL.step0 (Runs.free rfl) rfl (os_store (i := 1) (vs := [(.int .i64 0), (.int .i64 0)]) (cs' := [(.int .i64 0), (.int .i64 0)]) Tryd.sizeOf23 rfl rfl rfl rfl rfl rfl rfl rfl rfl ?_)
        refine WL.quiet (Runs.free rfl) rfl rfl (OV.quiet (ov_assign rfl rfl)) ?_
        refine WL.nil ?_
        refine then_normal ?_
        refine WP.ret ?_
        refine then_ret ?_
        refine retQ_ret (v := (.tuple #[(.agg #[(.int .i64 0), (.int .i64 0)]), (.int .i64 11)])) Tryd.results47 (Res.cell rfl (box_loads (i := 1) Tryd.isAgg23 Tryd.sizeOf23 rfl rfl) (Res.tmp rfl Res.nil)) rfl (fun w' s => ⟨_, ?_, s⟩)
        refine WL.quiet (Runs.free rfl) rfl rfl (OV.quiet (ov_extract rfl rfl rfl)) ?_
        refine WL.quiet (Runs.free rfl) rfl rfl (OV.quiet (ov_extract rfl rfl rfl)) ?_
        refine WL.step0 (Runs.free rfl) rfl (os_store (i := 2) (vs := [(.int .i64 0), (.int .i64 0)]) (cs' := [(.int .i64 0), (.int .i64 0)]) Tryd.sizeOf23 rfl rfl rfl rfl rfl rfl rfl rfl rfl ?_)
        refine WL.quiet (Runs.free rfl) rfl rfl (OV.quiet (ov_assign rfl rfl)) ?_
        refine WL.nil ?_
        refine then_normal ?_
        refine WP.ret ?_
        obtain rfl := Option.some.inj hm
        refine retQ_ret Tryd.results19 (Res.cell rfl (box_loads (i := 2) Tryd.isAgg23 Tryd.sizeOf23 rfl rfl) (Res.tmp rfl Res.nil)) rfl (fun w' s => ⟨s.below, ?_⟩)
        exact rfl
      · replace hm := ite_f hc3 hm
        refine WP.skip ?_
        refine then_normal ?_
        refine WP.seq ?_
        refine WP.region ?_
        refine WL.quiet (Runs.free rfl) rfl rfl (OV.quiet (ov_load_whole (i := 0) Tryd.isAgg23 Tryd.sizeOf23 rfl rfl rfl rfl)) ?_
        refine WL.step0 (Runs.free rfl) rfl (os_store (i := 1) (vs := [(.int .i64 (if p_b.low < p_a.low then p_b.low else p_a.low)), (.int .i64 (if p_b.high < p_a.high then p_b.high else p_a.high))]) (cs' := [(.int .i64 (if p_b.low < p_a.low then p_b.low else p_a.low)), (.int .i64 (if p_b.high < p_a.high then p_b.high else p_a.high))]) Tryd.sizeOf23 rfl rfl rfl rfl rfl rfl rfl rfl rfl ?_)
        refine WL.quiet (Runs.free rfl) rfl rfl (OV.quiet (ov_assign rfl rfl)) ?_
        refine WL.nil ?_
        refine then_normal ?_
        refine WP.ret ?_
        refine retQ_ret (v := (.tuple #[(.agg #[(.int .i64 (if p_b.low < p_a.low then p_b.low else p_a.low)), (.int .i64 (if p_b.high < p_a.high then p_b.high else p_a.high))]), (.int .i64 0)])) Tryd.results47 (Res.cell rfl (box_loads (i := 1) Tryd.isAgg23 Tryd.sizeOf23 rfl rfl) (Res.tmp rfl Res.nil)) rfl (fun w' s => ⟨_, ?_, s⟩)
        refine WL.quiet (Runs.free rfl) rfl rfl (OV.quiet (ov_extract rfl rfl rfl)) ?_
        refine WL.quiet (Runs.free rfl) rfl rfl (OV.quiet (ov_extract rfl rfl rfl)) ?_
        refine WL.step0 (Runs.free rfl) rfl (os_store (i := 2) (vs := [(.int .i64 (if p_b.low < p_a.low then p_b.low else p_a.low)), (.int .i64 (if p_b.high < p_a.high then p_b.high else p_a.high))]) (cs' := [(.int .i64 (if p_b.low < p_a.low then p_b.low else p_a.low)), (.int .i64 (if p_b.high < p_a.high then p_b.high else p_a.high))]) Tryd.sizeOf23 rfl rfl rfl rfl rfl rfl rfl rfl rfl ?_)
        refine WL.quiet (Runs.free rfl) rfl rfl (OV.quiet (ov_assign rfl rfl)) ?_
        refine WL.nil ?_
        refine then_normal ?_
        refine WP.ret ?_
        obtain rfl := Option.some.inj hm
        refine retQ_ret Tryd.results19 (Res.cell rfl (box_loads (i := 2) Tryd.isAgg23 Tryd.sizeOf23 rfl rfl) (Res.tmp rfl Res.nil)) rfl (fun w' s => ⟨s.below, ?_⟩)
        exact rfl

theorem ref03_Has_con (p_a : Span) (p_t : Int) (w : World) (H : Heap) (hH : Le H (hp w)) (hG : Glob H) (r : Bool) (hm : ref03_Has p_a p_t = some r) :
    Con Tryd.prog 20 [(.agg #[(.int .i64 p_a.low), (.int .i64 p_a.high)]), (.int .i64 p_t)] w H (fun v _ => v = (.bool r)) := by
  unfold ref03_Has at hm
  refine con_of hH Tryd.func20 rfl 15 Tryd.ntmps20 rfl ?_
  refine WP.seq ?_
  refine WP.region ?_
  refine WL.step (Runs.free rfl) rfl rfl (os_box (cs := [(.int .i64 p_a.low), (.int .i64 p_a.high)]) rfl rfl rfl (fun b1 => ?_))
  refine WL.quiet (Runs.free rfl) rfl rfl (OV.quiet (ov_assign rfl rfl)) ?_
  refine WL.nil ?_
  refine then_normal ?_
  refine WP.seq ?_
  refine WP.region ?_
  refine WL.quiet (Runs.free rfl) rfl rfl (OV.quiet (ov_move rfl rfl)) ?_
  refine WL.quiet (Runs.free rfl) rfl rfl (OV.quiet (ov_fieldAddr Tryd.underlying23 rfl rfl rfl Tryd.sizeOf3 rfl rfl)) ?_
  refine WL.quiet (Runs.free rfl) rfl rfl (OV.quiet (ov_load_box (i := 0) Tryd.isAgg3 rfl rfl rfl rfl)) ?_
  refine WL.quiet (Runs.free rfl) rfl rfl (OV.quiet (ov_geq rfl rfl rfl)) ?_
  refine WL.quiet (Runs.free rfl) rfl rfl (OV.quiet (ov_move rfl rfl)) ?_
  refine WL.cut_bool 5 14 (x := ((decide (p_t ≥ p_a.low)) && (decide (p_t ≤ p_a.high)))) ?_ ?_
  · rcases Bool.eq_false_or_eq_true (decide (p_t ≥ p_a.low)) with hc1 | hc1
    · skip
      refine WL.quiet (Runs.yes rfl rfl rfl hc1) rfl rfl (OV.quiet (ov_move rfl rfl)) ?_
      refine WL.quiet (Runs.yes rfl rfl rfl hc1) rfl rfl (OV.quiet (ov_fieldAddr Tryd.underlying23 rfl rfl rfl Tryd.sizeOf3 rfl rfl)) ?_
      refine WL.quiet (Runs.yes rfl rfl rfl hc1) rfl rfl (OV.quiet (ov_load_box (i := 0) Tryd.isAgg3 rfl rfl rfl rfl)) ?_
      refine WL.quiet (Runs.yes rfl rfl rfl hc1) rfl rfl (OV.quiet (ov_leq rfl rfl rfl)) ?_
      refine WL.quiet (Runs.free rfl) rfl rfl (OV.quiet (ov_pick_true rfl (guard_eq rfl hc1) rfl)) ?_
      exact WL.nil ⟨Sub.cons' rfl (congrArg Value.bool (by rw [hc1]; rfl)) (Sub.skip rfl (Sub.skip rfl (Sub.skip rfl (Sub.skip rfl (Sub.skip rfl (Sub.refl _)))))), fun _ s => s⟩
    · skip
      refine WL.idle (Idle.no rfl rfl rfl hc1) rfl rfl ?_
      refine WL.idle (Idle.no rfl rfl rfl hc1) rfl rfl ?_
      refine WL.idle (Idle.no rfl rfl rfl hc1) rfl rfl ?_
      refine WL.idle (Idle.no rfl rfl rfl hc1) rfl rfl ?_
      refine WL.quiet (Runs.free rfl) rfl rfl (OV.quiet (ov_pick_false rfl (guard_eq rfl hc1) rfl)) ?_
      exact WL.nil ⟨Sub.cons' rfl (congrArg Value.bool (by rw [hc1]; rfl)) (Sub.skip rfl (Sub.skip rfl (Sub.skip rfl (Sub.skip rfl (Sub.skip rfl (Sub.refl _)))))), fun _ s => s⟩
  refine WL.quiet (Runs.free rfl) rfl rfl (OV.quiet (ov_assign rfl rfl)) ?_
  refine WL.nil ?_
  refine then_normal ?_
  refine WP.ret ?_
  obtain rfl := Option.some.inj hm
  refine retQ_ret Tryd.results20 (Res.tmp rfl Res.nil) rfl (fun w' s => ⟨s.below, ?_⟩)
  exact rfl

end Go.Proofs.YtllhdlnnlckceaaDoor.W
