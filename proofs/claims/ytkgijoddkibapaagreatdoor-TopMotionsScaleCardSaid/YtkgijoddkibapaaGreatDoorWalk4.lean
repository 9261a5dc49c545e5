import Derived.Test.YtkgijoddkibapaaGreatDoorPlain
import Derived.Test.YtkgijoddkibapaaGreatDoorEqs
import Derived.Test.YtkgijoddkibapaaGreatDoorProg
import Derived.Test.YtkgijoddkibapaaGreatDoorExt
import Derived.Test.YtkgijoddkibapaaGreatDoorBuild
import Derived.Test.YtkgijoddkibapaaGreatDoorClone
import Derived.Test.YtkgijoddkibapaaGreatDoorWalk3
set_option linter.unusedVariables false
set_option maxRecDepth 100000
set_option maxHeartbeats 4000000
namespace Go.Proofs.YtkgijoddkibapaaGreatDoor.W
open Go Go.RowKit Go.Proofs.Tryz
theorem timespan_timely_con (p_n : Int) (w : World) (H : Heap) (hH : Le H (hp w)) (hG : Glob H) (r : Bool) (hm : timespan_timely p_n = some r) :
  Con prog 78 [(.int .i64 p_n)] w H (fun v _ => v = (.bool r)) := by
 unfold timespan_timely at hm
 refine con_of hH func78 rfl 9 ntmps78 rfl ?_
 refine WP.seq (WP.region (Va rfl (WL.nil (tn (WP.seq (WP.region (Vm rfl (V rfl (ov_geq rfl rfl rfl) (Vm rfl ?_)))))))))
 refine WL.cut_bool 3 8 (x := ((decide (p_n ≥ 0)) && (decide (p_n ≤ 1000000)))) ?_ ?_
 ·
  rcases Bool.eq_false_or_eq_true (decide (p_n ≥ 0)) with hc1 | hc1
  ·
   refine wy hc1 rfl (ov_move rfl rfl) ?_
   refine wy hc1 rfl (ov_leq rfl rfl rfl) ?_
   refine V rfl (ov_pick_true rfl (guard_eq rfl hc1) rfl) ?_
   exact WL.nil ⟨Sub.cons' rfl (congrArg Value.bool (andT hc1)) (Sub.dropn 3 rfl), fun _ s => s⟩
  refine Vi rfl (Idle.no rfl rfl rfl hc1) (Vi rfl (Idle.no rfl rfl rfl hc1) (V rfl (ov_pick_false rfl (guard_eq rfl hc1) rfl) ?_))
  exact WL.nil ⟨Sub.cons' rfl (congrArg Value.bool (andF hc1)) (Sub.dropn 3 rfl), fun _ s => s⟩
 refine Va rfl (WL.nil (tn (WP.ret ?_)))
 obtain rfl := Option.some.inj hm
 refine retQ_ret results78 (Res.tmp rfl Res.nil) rfl (fun w' s => ⟨s.below, ?_⟩)
 exact rfl
theorem timespan_Check_con (p_a : Span) (w : World) (H : Heap) (hH : Le H (hp w)) (hG : Glob H) (r : Int) (hm : timespan_Check p_a = some r) :
  Con prog 43 [(.agg #[(.int .i64 p_a.low), (.int .i64 p_a.high)])] w H (fun v _ => v = (.int .i64 r)) := by
 unfold timespan_Check at hm
 refine con_of hH func43 rfl 20 ntmps43 rfl ?_
 refine WP.seq (WP.region ?_)
 refine ws rfl (os_box (cs := [(.int .i64 p_a.low), (.int .i64 p_a.high)]) rfl rfl rfl (fun b1 => ?_))
 refine Va rfl (WL.nil (tn (WP.seq (WP.block (WP.seq (WP.region (V rfl (ov_fieldAddr underlying38 rfl rfl rfl sizeOf3 rfl rfl) (Vl 0 isAgg3 rfl ?_))))))))
 obtain ⟨r1, e1, hm⟩ := bind_some hm
 refine wo rfl (oq_con (r := (.bool r1)) call78 rfl rfl (fun w' s => ⟨_, (timespan_timely_con p_a.low  w' H s.hold hG r1 e1)⟩)) ?_
 refine V rfl (ov_not rfl rfl) (Vm rfl ?_)
 obtain ⟨c1, e2, hm⟩ := bind_some hm
 refine WL.cut_bool 5 13 (x := c1) ?_ ?_
 ·
  rcases Bool.eq_false_or_eq_true (!r1) with hc1 | hc1
  ·
   replace hm := ite_t hc1 e2
   refine Vi rfl (Idle.no rfl rfl rfl hc1) (Vi rfl (Idle.no rfl rfl rfl hc1) (Vi rfl (Idle.no rfl rfl rfl hc1) (Vi rfl (Idle.no rfl rfl rfl hc1) (V rfl (ov_pick_true rfl (guard_eq rfl hc1) rfl) ?_))))
   exact WL.nil ⟨Sub.cons' rfl (congrArg Value.bool (Option.some.inj hm)) (Sub.dropn 5 rfl), fun _ s => s⟩
  replace hm := ite_f hc1 e2
  refine wy hc1 rfl (ov_fieldAddr underlying38 rfl rfl rfl sizeOf3 rfl rfl) ?_
  refine wy hc1 rfl (ov_load_box (i := 0) isAgg3 rfl rfl rfl rfl) ?_
  obtain ⟨r2, e3, hm⟩ := bind_some hm
  refine WL.quiet (Runs.yes rfl rfl rfl hc1) rfl rfl (oq_con (r := (.bool r2)) call78 rfl rfl (fun w' s => ⟨_, (timespan_timely_con p_a.high  w' H s.hold hG r2 e3)⟩)) ?_
  refine wy hc1 rfl (ov_not rfl rfl) ?_
  refine V rfl (ov_pick_false rfl (guard_eq rfl hc1) rfl) ?_
  exact WL.nil ⟨Sub.cons' rfl (congrArg Value.bool (Option.some.inj hm)) (Sub.dropn 5 rfl), fun _ s => s⟩
 refine Va rfl (WL.nil (tn ?_))
 refine WP.cond rfl (fun hc2 => ?_) (fun hc2 => ?_)
 ·
  replace hm := ite_t hc2 hm
  refine WP.seq (WP.region (Va rfl (WL.nil (tn (WP.ret (block_ret (then_ret ?_)))))))
  obtain rfl := Option.some.inj hm
  refine retQ_ret results43 (Res.tmp rfl Res.nil) rfl (fun w' s => ⟨s.below, ?_⟩)
  exact rfl
 replace hm := ite_f hc2 hm
 refine WP.seq (WP.region (V rfl (ov_fieldAddr underlying38 rfl rfl rfl sizeOf3 rfl rfl) (Vl 0 isAgg3 rfl (V rfl (ov_fieldAddr underlying38 rfl rfl rfl sizeOf3 rfl rfl) (Vl 0 isAgg3 rfl (V rfl (ov_gtr rfl rfl rfl) (Va rfl (WL.nil (tn ?_)))))))))
 refine WP.cond rfl (fun hc3 => ?_) (fun hc3 => ?_)
 ·
  replace hm := ite_t hc3 hm
  refine WP.seq (WP.region (Va rfl (WL.nil (tn (WP.ret (block_ret (then_ret ?_)))))))
  obtain rfl := Option.some.inj hm
  refine retQ_ret results43 (Res.tmp rfl Res.nil) rfl (fun w' s => ⟨s.below, ?_⟩)
  exact rfl
 replace hm := ite_f hc3 hm
 refine WP.skip (bn (tn (WP.seq (WP.region (Va rfl (WL.nil (tn (WP.ret ?_))))))))
 obtain rfl := Option.some.inj hm
 refine retQ_ret results43 (Res.tmp rfl Res.nil) rfl (fun w' s => ⟨s.below, ?_⟩)
 exact rfl
theorem schedule_Check_con (p_s : Sequence) (p_p : Plant) (ao1 : Option Addr) (cap1 : Nat) (ao2 : Option Addr) (cap2 : Nat) (w : World) (H : Heap) (hH : Le H (hp w)) (h1 : SL H encStep ao1 p_s.steps) (hc1 : p_s.steps.length ≤ cap1) (h2 : SL H encTravel ao2 p_p.travels) (hc2 : p_p.travels.length ≤ cap2) (hG : Glob H) (r : Int) (hm : schedule_Check p_s p_p = some r) :
  Con prog 22 [(.agg #[(.int .i64 p_s.actuators), (.slice ao1 p_s.steps.length cap1)]), (.agg #[(.slice ao2 p_p.travels.length cap2)])] w H (fun v _ => v = (.int .i64 r)) := by
 unfold schedule_Check at hm
 refine con_of hH func22 rfl 51 ntmps22 rfl ?_
 refine WP.seq (WP.region ?_)
 refine ws rfl (os_box (cs := [(.int .i64 p_s.actuators), (.slice ao1 p_s.steps.length cap1)]) rfl rfl rfl (fun b1 => ?_))
 refine ws rfl (os_box (cs := [(.slice ao2 p_p.travels.length cap2)]) rfl rfl rfl (fun b2 => ?_))
 refine Va rfl (WL.nil (tn (WP.seq (WP.seq (WP.region (V rfl (ov_load_whole (i := 1) isAgg24 sizeOf24 rfl rfl rfl rfl) ?_))))))
 obtain ⟨r1, e1, hm⟩ := bind_some hm
 refine wo rfl (oq_con (r := (.int .i64 r1)) call27 rfl rfl (fun w' s => ⟨_, (sequence_Check_con p_s ao1 cap1  w' H s.hold h1 hc1 hG r1 e1)⟩)) ?_
 refine Va rfl (WL.nil (tn (WP.seq (WP.region (Vm rfl (V rfl (ov_neq rfl rfl rfl) (WL.nil (tn ?_))))))))
 refine WP.cond rfl (fun hc3 => ?_) (fun hc3 => ?_)
 ·
  replace hm := ite_t hc3 hm
  refine WP.seq (WP.region (Vm rfl (Va rfl (WL.nil (tn (WP.ret (then_ret ?_)))))))
  obtain rfl := Option.some.inj hm
  refine retQ_ret results22 (Res.tmp rfl Res.nil) rfl (fun w' s => ⟨s.below, ?_⟩)
  exact rfl
 replace hm := ite_f hc3 hm
 refine WP.skip (tn (WP.seq (WP.seq (WP.region (V rfl (ov_fieldAddr underlying27 rfl rfl rfl sizeOf25 rfl rfl) (Vl 0 isAgg25 rfl (V rfl (ov_len_slice underlying25 rfl rfl) (V rfl (ov_fieldAddr underlying24 rfl rfl rfl sizeOf3 rfl rfl) (Vl 1 isAgg3 rfl (V rfl (ov_neq rfl rfl rfl) (WL.nil (tn ?_))))))))))))
 refine WP.cond rfl (fun hc4 => ?_) (fun hc4 => ?_)
 ·
  replace hm := ite_t hc4 hm
  refine WP.seq (WP.region (Va rfl (WL.nil (tn (WP.ret (then_ret ?_))))))
  obtain rfl := Option.some.inj hm
  refine retQ_ret results22 (Res.tmp rfl Res.nil) rfl (fun w' s => ⟨s.below, ?_⟩)
  exact rfl
 replace hm := ite_f hc4 hm
 refine WP.skip (tn ?_)
 obtain ⟨k1, hk1, hm⟩ := joinK_some hm
 refine WP.seq_join (fun g' S' => ∃ (H4 : Heap), Le H H4 ∧ Sub [(2, (pB b1 0)), (3, (pB b2 0)), (1000000007, (.bool false))] g' ∧ (∀ w', S' w' → St w H [.blk b2 27 [(.slice ao2 p_p.travels.length cap2)], .blk b1 24 [(.int .i64 p_s.actuators), (.slice ao1 p_s.steps.length cap1)]] H4 w') ∧ k1 = some r) ?_ ?_
 ·
  refine WP.seq (WP.region (V rfl (ov_fieldAddr underlying27 rfl rfl rfl sizeOf25 rfl rfl) (Vl 0 isAgg25 rfl (V rfl (ov_len_slice underlying25 rfl rfl) (Vm rfl (WL.nil (tn (WP.block ?_))))))))
  refine WP.loop (fun m1 g' S' => ∃ (H1 : Heap) (i1 : Int), Le H H1 ∧ Sub [(2, (pB b1 0)), (3, (pB b2 0)), (23, (.slice ao2 p_p.travels.length cap2)), (24, (.int .i64 (p_p.travels.length : Int))), (25, (.int .i64 i1)), (1000000007, (.bool false))] g' ∧ (∀ w', S' w' → St w H [.blk b2 27 [(.slice ao2 p_p.travels.length cap2)], .blk b1 24 [(.int .i64 p_s.actuators), (.slice ao1 p_s.steps.length cap1)]] H1 w') ∧ schedule_Check_loop1 p_p k1 m1 i1 = some r) ((Int.toNat ((p_p.travels.length : Int) - 0) + 1)) ⟨H, 0, (Le.refl _), (Sub.all rfl), fun w' s => s, hm⟩ ?_ ?_
  ·
   rintro g' S' ⟨_, _, _, _, _, hm⟩
   exact none_some hm
  rintro m1 g' S' ⟨H1, i1, hle1, hsub1, hS1, hm⟩
  refine WP.sub hsub1 (WP.weaken hS1 ?_)
  rw [schedule_Check_loop1] at hm
  replace h2 := h2.mono hle1
  replace h1 := h1.mono hle1
  replace hG := hG.mono hle1
  refine WP.seq (WP.region (V rfl (ov_lss rfl rfl rfl) (WL.nil (tn (WP.seq ?_)))))
  refine WP.cond rfl (fun hc5 => ?_) (fun hc5 => ?_)
  ·
   replace hm := ite_t hc5 hm
   refine WP.skip (tn ?_)
   obtain ⟨k2, hk2, hm⟩ := joinK_some hm
   refine WP.seq_join (fun g' S' => ∃ (H3 : Heap), Le H1 H3 ∧ Sub [(2, (pB b1 0)), (3, (pB b2 0)), (23, (.slice ao2 p_p.travels.length cap2)), (24, (.int .i64 (p_p.travels.length : Int))), (25, (.int .i64 i1)), (1000000007, (.bool false))] g' ∧ (∀ w', S' w' → St w H [.blk b2 27 [(.slice ao2 p_p.travels.length cap2)], .blk b1 24 [(.int .i64 p_s.actuators), (.slice ao1 p_s.steps.length cap1)]] H3 w') ∧ k2 = some r) ?_ ?_
   ·
    refine WP.block (WP.seq (WP.region ?_))
    obtain ⟨x1, e2, hm⟩ := bind_some hm
    obtain ⟨h3, h4, h5, cs1, h6, h7⟩ := h2.get e2 (by decide)
    obtain rfl : cs1 = [(.int .i64 x1.out.low), (.int .i64 x1.out.high), (.int .i64 x1.in_.low), (.int .i64 x1.in_.high)] := h6
    refine V rfl (ov_indexAddr underlying25 sizeOf51 rfl rfl rfl h3 h4 h5) (V rfl (ov_load_elems (vs := [(.int .i64 x1.out.low), (.int .i64 x1.out.high), (.int .i64 x1.in_.low), (.int .i64 x1.in_.high)]) isAgg51 sizeOf51 rfl rfl rfl h7 h5) ?_)
    refine ws rfl (os_alloc (cs := [(.int .i64 0), (.int .i64 0), (.int .i64 0), (.int .i64 0)]) zeroValue51 rfl rfl (fun b3 => ?_))
    refine ws0 rfl (os_store (i := 0) (vs := [(.int .i64 x1.out.low), (.int .i64 x1.out.high), (.int .i64 x1.in_.low), (.int .i64 x1.in_.high)]) (cs' := [(.int .i64 x1.out.low), (.int .i64 x1.out.high), (.int .i64 x1.in_.low), (.int .i64 x1.in_.high)]) sizeOf51 rfl rfl rfl rfl rfl rfl rfl rfl rfl ?_)
    refine WL.nil (tn (WP.seq (WP.region (V rfl (ov_fieldAddr underlying51 rfl rfl rfl sizeOf38 rfl rfl) (V rfl (ov_load_boxes (i := 0) (vs := [(.int .i64 x1.out.low), (.int .i64 x1.out.high)]) isAgg38 sizeOf38 rfl rfl rfl rfl (part_of rfl)) (V rfl (ov_fieldAddr underlying51 rfl rfl rfl sizeOf38 rfl rfl) (V rfl (ov_load_boxes (i := 0) (vs := [(.int .i64 x1.in_.low), (.int .i64 x1.in_.high)]) isAgg38 sizeOf38 rfl rfl rfl rfl (part_of rfl)) ?_)))))))
    have rl1 : RL H1 encSpan ([x1.out, x1.in_] : List Span) [(.int .i64 x1.out.low), (.int .i64 x1.out.high), (.int .i64 x1.in_.low), (.int .i64 x1.in_.high)] := RL.cons (cs := [(.int .i64 x1.out.low), (.int .i64 x1.out.high)]) (xs := [(.int .i64 x1.in_.low), (.int .i64 x1.in_.high)]) rfl (RL.cons (cs := [(.int .i64 x1.in_.low), (.int .i64 x1.in_.high)]) (xs := []) rfl (RL.nil _ _))
    refine ws rfl (os_buildSlice (cs := [(.int .i64 x1.out.low), (.int .i64 x1.out.high), (.int .i64 x1.in_.low), (.int .i64 x1.in_.high)]) (E := 38) (sz := 2) rfl rfl (fun _ => by kernel_rfl) rfl (by decide) (fun b4 => ?_))
    refine WL.held rl1 (fun H2 hc6 hle2 h8 => ?_)
    replace h2 := h2.mono hle2
    replace h1 := h1.mono hle2
    replace hG := hG.mono hle2
    refine V rfl (ov_len_slice underlying95 rfl rfl) (Vm rfl (WL.nil (tn (WP.block ?_))))
    refine WP.loop (fun m2 g' S' => ∃ (i2 : Int), Sub [(2, (pB b1 0)), (3, (pB b2 0)), (23, (.slice ao2 p_p.travels.length cap2)), (24, (.int .i64 (p_p.travels.length : Int))), (25, (.int .i64 i1)), (33, (.slice (some ⟨b4, 0, none⟩) ([x1.out, x1.in_] : List Span).length 2)), (34, (.int .i64 (([x1.out, x1.in_] : List Span).length : Int))), (35, (.int .i64 i2)), (1000000007, (.bool false))] g' ∧ (∀ w', S' w' → St w H [.blk b2 27 [(.slice ao2 p_p.travels.length cap2)], .blk b1 24 [(.int .i64 p_s.actuators), (.slice ao1 p_s.steps.length cap1)]] H2 w') ∧ schedule_Check_loop2 k2 x1 m2 i2 = some r) ((Int.toNat ((([x1.out, x1.in_] : List Span).length : Int) - 0) + 1)) ⟨0, (Sub.all rfl), fun w' s => (s.select [1, 2] (by decide) rfl), hm⟩ ?_ ?_
    ·
     rintro g' S' ⟨_, _, _, hm⟩
     exact none_some hm
    rintro m2 g' S' ⟨i2, hsub2, hS2, hm⟩
    refine WP.sub hsub2 (WP.weaken hS2 ?_)
    rw [schedule_Check_loop2] at hm
    refine WP.seq (WP.region (V rfl (ov_lss rfl rfl rfl) (WL.nil (tn (WP.seq ?_)))))
    refine WP.cond rfl (fun hc7 => ?_) (fun hc7 => ?_)
    ·
     replace hm := ite_t hc7 hm
     refine WP.skip (tn (WP.seq (WP.block (WP.seq (WP.region ?_)))))
     obtain ⟨x2, e3, hm⟩ := bind_some hm
     obtain ⟨h9, h10, h11, cs2, h12, h13⟩ := h8.get e3 (by decide)
     obtain rfl : cs2 = [(.int .i64 x2.low), (.int .i64 x2.high)] := h12
     refine V rfl (ov_indexAddr underlying95 sizeOf38 rfl rfl rfl h9 h10 h11) (V rfl (ov_load_elems (vs := [(.int .i64 x2.low), (.int .i64 x2.high)]) isAgg38 sizeOf38 rfl rfl rfl h13 h11) ?_)
     refine ws rfl (os_alloc (cs := [(.int .i64 0), (.int .i64 0)]) zeroValue38 rfl rfl (fun b5 => ?_))
     refine ws0 rfl (os_store (i := 0) (vs := [(.int .i64 x2.low), (.int .i64 x2.high)]) (cs' := [(.int .i64 x2.low), (.int .i64 x2.high)]) sizeOf38 rfl rfl rfl rfl rfl rfl rfl rfl rfl ?_)
     refine WL.nil (tn (WP.seq (WP.region (V rfl (ov_load_whole (i := 0) isAgg38 sizeOf38 rfl rfl rfl rfl) ?_))))
     obtain ⟨r2, e4, hm⟩ := bind_some hm
     refine wo rfl (oq_con (r := (.int .i64 r2)) call43 rfl rfl (fun w' s => ⟨_, (timespan_Check_con x2  w' H2 s.hold hG r2 e4)⟩)) ?_
     refine Va rfl (WL.nil (tn (WP.seq (WP.region (Vm rfl (V rfl (ov_neq rfl rfl rfl) (WL.nil (tn ?_))))))))
     refine WP.cond rfl (fun hc8 => ?_) (fun hc8 => ?_)
     ·
      replace hm := ite_t hc8 hm
      refine WP.seq (WP.region (Vm rfl (Va rfl (WL.nil (tn (WP.ret (block_ret (then_ret (then_ret (block_ret (block_ret (then_ret (then_ret ?_)))))))))))))
      refine block_ret (then_ret ?_)
      obtain rfl := Option.some.inj hm
      refine retQ_ret results22 (Res.tmp rfl Res.nil) rfl (fun w' s => ⟨s.below, ?_⟩)
      exact rfl
     replace hm := ite_f hc8 hm
     refine WP.skip (bn (tn (WP.region (V rfl (ov_add rfl rfl rfl) (Vm rfl (WL.nil (tn ?_)))))))
     exact ⟨(IntKind.wrap .i64 (i2 + 1)), (Sub.all rfl), fun w' s => (s.select [1, 2] (by decide) rfl), hm⟩
    replace hm := ite_f hc7 hm
    refine WP.exit (then_exit (then_exit (block_here (bn (tn ?_)))))
    exact ⟨H2, hle2, (Sub.all rfl), fun w' s => s, hm⟩
   rintro g' S' ⟨H3, hle3, hsub3, hS3, hm⟩
   refine WP.sub hsub3 (WP.weaken hS3 ?_)
   replace hm := hk2.symm.trans hm
   replace h2 := h2.mono hle3
   replace h1 := h1.mono hle3
   replace hG := hG.mono hle3
   refine WP.region (V rfl (ov_add rfl rfl rfl) (Vm rfl (WL.nil (tn ?_))))
   exact ⟨H3, (IntKind.wrap .i64 (i1 + 1)), (hle1.trans hle3), (Sub.all rfl), fun w' s => s, hm⟩
  replace hm := ite_f hc5 hm
  refine WP.exit (then_exit (then_exit (block_here (tn ?_))))
  exact ⟨H1, hle1, (Sub.all rfl), fun w' s => s, hm⟩
 rintro g' S' ⟨H4, hle4, hsub4, hS4, hm⟩
 refine WP.sub hsub4 (WP.weaken hS4 ?_)
 replace hm := hk1.symm.trans hm
 replace h2 := h2.mono hle4
 replace h1 := h1.mono hle4
 replace hG := hG.mono hle4
 refine WP.seq (WP.seq (WP.region (V rfl (ov_load_whole (i := 1) isAgg24 sizeOf24 rfl rfl rfl rfl) (V rfl (ov_load_whole (i := 0) isAgg27 sizeOf27 rfl rfl rfl rfl) ?_))))
 obtain ⟨r3, e5, hm⟩ := bind_some hm
 refine wo rfl (oq_con (r := (.agg #[(.int .i64 r3.low), (.int .i64 r3.high)])) call26 rfl rfl (fun w' s => ⟨_, (schedule_whole_con p_s p_p ao1 cap1 ao2 cap2  w' H4 s.hold h1 hc1 h2 hc2 hG r3 e5)⟩)) ?_
 refine V rfl (ov_field (cs := [(.int .i64 r3.low), (.int .i64 r3.high)]) (r := (.int .i64 r3.high)) rfl rfl (fun _ => by kernel_rfl)) (V rfl (ov_gtr rfl rfl rfl) (WL.nil (tn ?_)))
 refine WP.cond rfl (fun hc9 => ?_) (fun hc9 => ?_)
 ·
  replace hm := ite_t hc9 hm
  refine WP.seq (WP.region (Va rfl (WL.nil (tn (WP.ret (then_ret ?_))))))
  obtain rfl := Option.some.inj hm
  refine retQ_ret results22 (Res.tmp rfl Res.nil) rfl (fun w' s => ⟨s.below, ?_⟩)
  exact rfl
 replace hm := ite_f hc9 hm
 refine WP.skip (tn (WP.seq (WP.region (Va rfl (WL.nil (tn (WP.ret ?_)))))))
 obtain rfl := Option.some.inj hm
 refine retQ_ret results22 (Res.tmp rfl Res.nil) rfl (fun w' s => ⟨s.below, ?_⟩)
 exact rfl
theorem schedule_Cycle_con (p_s : Sequence) (p_p : Plant) (ao1 : Option Addr) (cap1 : Nat) (ao2 : Option Addr) (cap2 : Nat) (w : World) (H : Heap) (hH : Le H (hp w)) (h1 : SL H encStep ao1 p_s.steps) (hc1 : p_s.steps.length ≤ cap1) (h2 : SL H encTravel ao2 p_p.travels) (hc2 : p_p.travels.length ≤ cap2) (hG : Glob H) (r : (Span × Int)) (hm : schedule_Cycle p_s p_p = some r) :
  Con prog 9 [(.agg #[(.int .i64 p_s.actuators), (.slice ao1 p_s.steps.length cap1)]), (.agg #[(.slice ao2 p_p.travels.length cap2)])] w H (fun v _ => v = (.tuple #[(.agg #[(.int .i64 r.1.low), (.int .i64 r.1.high)]), (.int .i64 r.2)])) := by
 unfold schedule_Cycle at hm
 refine con_of hH func9 rfl 17 ntmps9 rfl ?_
 refine WP.seq (WP.region ?_)
 refine ws rfl (os_box (cs := [(.int .i64 p_s.actuators), (.slice ao1 p_s.steps.length cap1)]) rfl rfl rfl (fun b1 => ?_))
 refine ws rfl (os_box (cs := [(.slice ao2 p_p.travels.length cap2)]) rfl rfl rfl (fun b2 => ?_))
 refine ws rfl (os_alloc (cs := [(.int .i64 0), (.int .i64 0)]) zeroValue38 rfl rfl (fun b3 => ?_))
 refine Va rfl (WL.nil (tn (WP.seq (WP.seq (WP.region (V rfl (ov_load_whole (i := 2) isAgg24 sizeOf24 rfl rfl rfl rfl) (V rfl (ov_load_whole (i := 1) isAgg27 sizeOf27 rfl rfl rfl rfl) ?_)))))))
 obtain ⟨r1, e1, hm⟩ := bind_some hm
 refine wo rfl (oq_con (r := (.int .i64 r1)) call22 rfl rfl (fun w' s => ⟨_, (schedule_Check_con p_s p_p ao1 cap1 ao2 cap2  w' H s.hold h1 hc1 h2 hc2 hG r1 e1)⟩)) ?_
 refine Va rfl (WL.nil (tn (WP.seq (WP.region (Vm rfl (V rfl (ov_neq rfl rfl rfl) (WL.nil (tn ?_))))))))
 refine WP.cond rfl (fun hc3 => ?_) (fun hc3 => ?_)
 ·
  replace hm := ite_t hc3 hm
  refine WP.seq (WP.region (V rfl (ov_build (r := (.agg #[(.int .i64 0), (.int .i64 0)])) rfl rfl (fun _ => by kernel_rfl)) (Vm rfl ?_)))
  refine ws0 rfl (os_store (i := 0) (vs := [(.int .i64 0), (.int .i64 0)]) (cs' := [(.int .i64 0), (.int .i64 0)]) sizeOf38 rfl rfl rfl rfl rfl rfl rfl rfl rfl ?_)
  refine Va rfl (WL.nil (tn (WP.ret (then_ret ?_))))
  obtain rfl := Option.some.inj hm
  refine retQ_ret results9 (Res.cell rfl (box_loads (i := 0) isAgg38 sizeOf38 rfl rfl) (Res.tmp rfl Res.nil)) rfl (fun w' s => ⟨s.below, ?_⟩)
  exact rfl
 replace hm := ite_f hc3 hm
 refine WP.skip (tn (WP.seq (WP.region (V rfl (ov_load_whole (i := 2) isAgg24 sizeOf24 rfl rfl rfl rfl) (V rfl (ov_load_whole (i := 1) isAgg27 sizeOf27 rfl rfl rfl rfl) ?_)))))
 obtain ⟨r2, e2, hm⟩ := bind_some hm
 refine wo rfl (oq_con (r := (.agg #[(.int .i64 r2.low), (.int .i64 r2.high)])) call26 rfl rfl (fun w' s => ⟨_, (schedule_whole_con p_s p_p ao1 cap1 ao2 cap2  w' H s.hold h1 hc1 h2 hc2 hG r2 e2)⟩)) ?_
 refine ws0 rfl (os_store (i := 0) (vs := [(.int .i64 r2.low), (.int .i64 r2.high)]) (cs' := [(.int .i64 r2.low), (.int .i64 r2.high)]) sizeOf38 rfl rfl rfl rfl rfl rfl rfl rfl rfl ?_)
 refine Va rfl (WL.nil (tn (WP.ret ?_)))
 obtain rfl := Option.some.inj hm
 refine retQ_ret results9 (Res.cell rfl (box_loads (i := 0) isAgg38 sizeOf38 rfl rfl) (Res.tmp rfl Res.nil)) rfl (fun w' s => ⟨s.below, ?_⟩)
 exact rfl
theorem lexer_class_con (p_b : Int) (w : World) (H : Heap) (hH : Le H (hp w)) (hG : Glob H) (r : Int) (hm : lexer_class p_b = some r) :
  Con prog 96 [(.int .u8 p_b)] w H (fun v _ => v = (.int .i64 r)) := by
 unfold lexer_class at hm
 refine con_of hH func96 rfl 28 ntmps96 rfl ?_
 refine WP.seq (WP.region (Va rfl (WL.nil (tn ?_))))
 obtain ⟨k1, hk1, hm⟩ := joinK_some hm
 refine WP.seq_join (fun g' S' => Sub [(0, (.int .u8 p_b)), (1000000007, (.bool false))] g' ∧ (∀ w', S' w' → St w H [] H w') ∧ k1 = some r) ?_ ?_
 ·
  refine WP.seq (WP.region (Vm rfl (WL.nil (tn (WP.block ?_)))))
  refine WP.loop (fun m1 g' S' => ∃ (i1 : Int), Sub [(0, (.int .u8 p_b)), (5, (.int .i64 i1)), (1000000007, (.bool false))] g' ∧ (∀ w', S' w' → St w H [] H w') ∧ lexer_class_loop1 p_b k1 m1 i1 = some r) ((Int.toNat (6 - 0) + 1)) ⟨0, (Sub.all rfl), fun w' s => s, hm⟩ ?_ ?_
  ·
   rintro g' S' ⟨_, _, _, hm⟩
   exact none_some hm
  rintro m1 g' S' ⟨i1, hsub1, hS1, hm⟩
  refine WP.sub hsub1 (WP.weaken hS1 ?_)
  rw [lexer_class_loop1] at hm
  refine WP.seq (WP.region (V rfl (ov_lss rfl rfl rfl) (WL.nil (tn (WP.seq ?_)))))
  refine WP.cond rfl (fun hc1 => ?_) (fun hc1 => ?_)
  ·
   replace hm := ite_t hc1 hm
   refine WP.skip (tn (WP.seq (WP.block (WP.seq (WP.region (Vm rfl (Va rfl (WL.nil (tn (WP.seq (WP.region (Vm rfl ?_))))))))))))
   obtain ⟨x1, e1, hm⟩ := bind_some hm
   obtain ⟨h1, h2, h3, cs1, h4, h5⟩ := hG.1.2.get e1 (by decide)
   obtain rfl : cs1 = [(.int .u8 x1.a0), (.int .u8 x1.a1), (.int .u8 x1.a2)] := h4
   refine V rfl (ov_indexAddr_globL rfl underlying198 sizeOf197 rfl rfl rfl h1 h2) (V rfl (ov_load_elems (vs := [(.int .u8 x1.a0), (.int .u8 x1.a1), (.int .u8 x1.a2)]) isAgg197 sizeOf197 rfl rfl rfl h5 h3) ?_)
   refine ws rfl (os_alloc (cs := [(.int .u8 0), (.int .u8 0), (.int .u8 0)]) zeroValue197 rfl rfl (fun b1 => ?_))
   refine ws0 rfl (os_store (i := 0) (vs := [(.int .u8 x1.a0), (.int .u8 x1.a1), (.int .u8 x1.a2)]) (cs' := [(.int .u8 x1.a0), (.int .u8 x1.a1), (.int .u8 x1.a2)]) sizeOf197 rfl rfl rfl rfl rfl rfl rfl rfl rfl ?_)
   refine WL.nil (tn (WP.seq (WP.region (V rfl (ov_indexAddr_arr underlying197 sizeOf5 rfl rfl rfl (by decide) (by decide)) (Vl 0 isAgg5 rfl (Vm rfl (V rfl (ov_leq rfl rfl rfl) (Vm rfl ?_))))))))
   refine WL.cut_bool 5 20 (x := ((decide (x1.a0 ≤ p_b)) && (decide (p_b ≤ x1.a1)))) ?_ ?_
   ·
    rcases Bool.eq_false_or_eq_true (decide (x1.a0 ≤ p_b)) with hc2 | hc2
    ·
     refine wy hc2 rfl (ov_move rfl rfl) ?_
     refine wy hc2 rfl (ov_indexAddr_arr underlying197 sizeOf5 rfl rfl rfl (by decide) (by decide)) ?_
     refine wy hc2 rfl (ov_load_box (i := 0) isAgg5 rfl rfl rfl rfl) ?_
     refine wy hc2 rfl (ov_leq rfl rfl rfl) ?_
     refine V rfl (ov_pick_true rfl (guard_eq rfl hc2) rfl) ?_
     exact WL.nil ⟨Sub.cons' rfl (congrArg Value.bool (andT hc2)) (Sub.dropn 5 rfl), fun _ s => s⟩
    refine Vi rfl (Idle.no rfl rfl rfl hc2) (Vi rfl (Idle.no rfl rfl rfl hc2) (Vi rfl (Idle.no rfl rfl rfl hc2) (Vi rfl (Idle.no rfl rfl rfl hc2) (V rfl (ov_pick_false rfl (guard_eq rfl hc2) rfl) ?_))))
    exact WL.nil ⟨Sub.cons' rfl (congrArg Value.bool (andF hc2)) (Sub.dropn 5 rfl), fun _ s => s⟩
   refine WL.nil (tn ?_)
   refine WP.cond rfl (fun hc3 => ?_) (fun hc3 => ?_)
   ·
    replace hm := ite_t hc3 hm
    refine WP.seq (WP.region (V rfl (ov_indexAddr_arr underlying197 sizeOf5 rfl rfl rfl (by decide) (by decide)) (Vl 0 isAgg5 rfl (V rfl (ov_convert_int underlying5 underlying3 rfl rfl) (Va rfl (WL.nil (tn (WP.ret (block_ret (then_ret (then_ret (block_ret (then_ret ?_)))))))))))))
    obtain rfl := Option.some.inj hm
    refine retQ_ret results96 (Res.tmp rfl Res.nil) rfl (fun w' s => ⟨s.below, ?_⟩)
    exact rfl
   replace hm := ite_f hc3 hm
   refine WP.skip (bn (tn (WP.region (V rfl (ov_add rfl rfl rfl) (Vm rfl (WL.nil (tn ?_)))))))
   exact ⟨(IntKind.wrap .i64 (i1 + 1)), (Sub.all rfl), fun w' s => (s.select [] (by decide) rfl), hm⟩
  replace hm := ite_f hc1 hm
  refine WP.exit (then_exit (then_exit (block_here (tn ?_))))
  exact ⟨(Sub.all rfl), fun w' s => s, hm⟩
 rintro g' S' ⟨hsub2, hS2, hm⟩
 refine WP.sub hsub2 (WP.weaken hS2 ?_)
 replace hm := hk1.symm.trans hm
 refine WP.seq (WP.seq (WP.region (Vm rfl ?_)))
 obtain ⟨r1, e2, hm⟩ := bind_some hm
 refine wo rfl (oq_con (r := (.int .i64 r1)) call119 rfl rfl (fun w' s => ⟨_, (idxB_con [43, 45, 42, 47, 40, 41, 91, 93, 123, 125, 60, 62, 61, 44, 59, 58, 124, 38, 33, 35, 46] p_b  w' H s.hold hG r1 e2)⟩)) ?_
 refine V rfl (ov_geq rfl rfl rfl) (WL.nil (tn ?_))
 refine WP.cond rfl (fun hc4 => ?_) (fun hc4 => ?_)
 ·
  replace hm := ite_t hc4 hm
  refine WP.seq (WP.region (Va rfl (WL.nil (tn (WP.ret (then_ret ?_))))))
  obtain rfl := Option.some.inj hm
  refine retQ_ret results96 (Res.tmp rfl Res.nil) rfl (fun w' s => ⟨s.below, ?_⟩)
  exact rfl
 replace hm := ite_f hc4 hm
 refine WP.skip (tn (WP.seq (WP.region (Va rfl (WL.nil (tn (WP.ret ?_)))))))
 obtain rfl := Option.some.inj hm
 refine retQ_ret results96 (Res.tmp rfl Res.nil) rfl (fun w' s => ⟨s.below, ?_⟩)
 exact rfl
theorem lexer_run_con (p_s : (List UInt8)) (p_classes : (List Int)) (ao1 : Option Addr) (cap1 : Nat) (w : World) (H : Heap) (hH : Le H (hp w)) (h1 : SL H (encInt .i64) ao1 p_classes) (hc1 : p_classes.length ≤ cap1) (hG : Glob H) (r : Int) (hm : lexer_run p_s p_classes = some r) :
  Con prog 97 [(mkS p_s), (.slice ao1 p_classes.length cap1)] w H (fun v _ => v = (.int .i64 r)) := by
 unfold lexer_run at hm
 refine con_of hH func97 rfl 36 ntmps97 rfl ?_
 refine WP.seq (WP.region (Va rfl (WL.nil (tn ?_))))
 obtain ⟨k1, hk1, hm⟩ := joinK_some hm
 refine WP.seq_join (fun g' S' => Sub [(0, (mkS p_s)), (1000000007, (.bool false))] g' ∧ (∀ w', S' w' → St w H [] H w') ∧ k1 = some r) ?_ ?_
 ·
  refine WP.seq (WP.region (Vm rfl (V rfl (ov_len_string underlying9 rfl rfl) (Vm rfl (WL.nil (tn (WP.block ?_)))))))
  refine WP.loop (fun m1 g' S' => ∃ (i1 : Int), Sub [(0, (mkS p_s)), (1, (.slice ao1 p_classes.length cap1)), (10, (.int .i64 (p_s.length : Int))), (11, (.int .i64 i1)), (1000000007, (.bool false))] g' ∧ (∀ w', S' w' → St w H [] H w') ∧ lexer_run_loop1 p_s p_classes k1 m1 i1 = some r) ((Int.toNat ((p_s.length : Int) - 0) + 1)) ⟨0, (Sub.all rfl), fun w' s => s, hm⟩ ?_ ?_
  ·
   rintro g' S' ⟨_, _, _, hm⟩
   exact none_some hm
  rintro m1 g' S' ⟨i1, hsub1, hS1, hm⟩
  refine WP.sub hsub1 (WP.weaken hS1 ?_)
  rw [lexer_run_loop1] at hm
  refine WP.seq (WP.region (V rfl (ov_lss rfl rfl rfl) (WL.nil (tn (WP.seq ?_)))))
  refine WP.cond rfl (fun hc2 => ?_) (fun hc2 => ?_)
  ·
   replace hm := ite_t hc2 hm
   refine WP.skip (tn ?_)
   obtain ⟨k2, hk2, hm⟩ := joinK_some hm
   refine WP.seq_join (fun g' S' => Sub [(0, (mkS p_s)), (1, (.slice ao1 p_classes.length cap1)), (10, (.int .i64 (p_s.length : Int))), (11, (.int .i64 i1)), (1000000007, (.bool false))] g' ∧ (∀ w', S' w' → St w H [] H w') ∧ k2 = some r) ?_ ?_
   ·
    refine WP.block (WP.seq (WP.region (Vm rfl (Va rfl (WL.nil (tn (WP.seq (WP.region (Va rfl (WL.nil (tn ?_)))))))))))
    obtain ⟨k3, hk3, hm⟩ := joinK_some hm
    refine WP.seq_join (fun g' S' => ∃ (c3 : Bool), Sub [(0, (mkS p_s)), (1, (.slice ao1 p_classes.length cap1)), (5, (.int .i64 i1)), (6, (.bool c3)), (10, (.int .i64 (p_s.length : Int))), (11, (.int .i64 i1)), (1000000007, (.bool false))] g' ∧ (∀ w', S' w' → St w H [] H w') ∧ k3 c3 = some r) ?_ ?_
    ·
     refine WP.seq (WP.region (Vm rfl (V rfl (ov_len_slice underlying33 rfl rfl) (Vm rfl (WL.nil (tn (WP.block ?_)))))))
     refine WP.loop (fun m2 g' S' => ∃ (c1 : Bool) (i2 : Int), Sub [(0, (mkS p_s)), (1, (.slice ao1 p_classes.length cap1)), (5, (.int .i64 i1)), (6, (.bool c1)), (10, (.int .i64 (p_s.length : Int))), (11, (.int .i64 i1)), (14, (.slice ao1 p_classes.length cap1)), (15, (.int .i64 (p_classes.length : Int))), (16, (.int .i64 i2)), (1000000007, (.bool false))] g' ∧ (∀ w', S' w' → St w H [] H w') ∧ lexer_run_loop2 p_s p_classes i1 k3 m2 c1 i2 = some r) ((Int.toNat ((p_classes.length : Int) - 0) + 1)) ⟨false, 0, (Sub.all rfl), fun w' s => s, hm⟩ ?_ ?_
     ·
      rintro g' S' ⟨_, _, _, _, hm⟩
      exact none_some hm
     rintro m2 g' S' ⟨c1, i2, hsub2, hS2, hm⟩
     refine WP.sub hsub2 (WP.weaken hS2 ?_)
     rw [lexer_run_loop2] at hm
     refine WP.seq (WP.region (V rfl (ov_lss rfl rfl rfl) (WL.nil (tn (WP.seq ?_)))))
     refine WP.cond rfl (fun hc3 => ?_) (fun hc3 => ?_)
     ·
      replace hm := ite_t hc3 hm
      refine WP.skip (tn (WP.seq (WP.block (WP.seq (WP.region ?_)))))
      obtain ⟨x1, e1, hm⟩ := bind_some hm
      obtain ⟨h2, h3, h4, cs1, h5, h6⟩ := h1.get e1 (by decide)
      obtain rfl : cs1 = [(.int .i64 x1)] := h5
      refine V rfl (ov_indexAddr underlying33 sizeOf3 rfl rfl rfl h2 h3 h4) (V rfl (ov_load_elem (v := (.int .i64 x1)) isAgg3 rfl rfl h6) (Va rfl (WL.nil (tn (WP.region (Vm rfl (Vm rfl ?_)))))))
      obtain ⟨c2, e2, hm⟩ := bind_some hm
      refine WL.cut_bool 7 28 (x := c2) ?_ ?_
      ·
       rcases Bool.eq_false_or_eq_true c1 with hc4 | hc4
       ·
        replace hm := ite_t hc4 e2
        refine Vi rfl (Idle.no rfl rfl rfl hc4) (Vi rfl (Idle.no rfl rfl rfl hc4) (Vi rfl (Idle.no rfl rfl rfl hc4) (Vi rfl (Idle.no rfl rfl rfl hc4) (Vi rfl (Idle.no rfl rfl rfl hc4) (Vi rfl (Idle.no rfl rfl rfl hc4) (V rfl (ov_pick_true rfl (guard_eq rfl hc4) rfl) ?_))))))
        exact WL.nil ⟨Sub.cons' rfl (congrArg Value.bool (Option.some.inj hm)) (Sub.dropn 7 rfl), fun _ s => s⟩
       replace hm := ite_f hc4 e2
       refine wy hc4 rfl (ov_move rfl rfl) ?_
       refine wy hc4 rfl (ov_move rfl rfl) ?_
       obtain ⟨b1, e3, hm⟩ := bind_some hm
       refine wy hc4 rfl (ov_index_string underlying9 rfl rfl rfl e3) ?_
       obtain ⟨r1, e4, hm⟩ := bind_some hm
       refine WL.quiet (Runs.yes rfl rfl rfl hc4) rfl rfl (oq_con (r := (.int .i64 r1)) call96 rfl rfl (fun w' s => ⟨_, (lexer_class_con (b1.toNat : Int)  w' H s.hold hG r1 e4)⟩)) ?_
       refine wy hc4 rfl (ov_move rfl rfl) ?_
       refine wy hc4 rfl (ov_eql rfl rfl rfl) ?_
       refine V rfl (ov_pick_false rfl (guard_eq rfl hc4) rfl) ?_
       exact WL.nil ⟨Sub.cons' rfl (congrArg Value.bool (Option.some.inj hm)) (Sub.dropn 7 rfl), fun _ s => s⟩
      refine Va rfl (WL.nil (bn (tn (WP.region (V rfl (ov_add rfl rfl rfl) (Vm rfl (WL.nil (tn ?_))))))))
      exact ⟨c2, (IntKind.wrap .i64 (i2 + 1)), (Sub.all rfl), fun w' s => s, hm⟩
     replace hm := ite_f hc3 hm
     refine WP.exit (then_exit (then_exit (block_here (tn ?_))))
     exact ⟨c1, (Sub.all rfl), fun w' s => s, hm⟩
    rintro g' S' ⟨c3, hsub3, hS3, hm⟩
    refine WP.sub hsub3 (WP.weaken hS3 ?_)
    replace hm := (congrFun hk3 c3).symm.trans hm
    refine WP.seq (WP.region (Vm rfl (V rfl (ov_not rfl rfl) (WL.nil (tn ?_)))))
    refine WP.cond rfl (fun hc5 => ?_) (fun hc5 => ?_)
    ·
     replace hm := ite_t hc5 hm
     refine WP.seq (WP.region (Vm rfl (Va rfl (WL.nil (tn (WP.ret (block_ret (then_ret (then_ret (block_ret (then_ret ?_)))))))))))
     obtain rfl := Option.some.inj hm
     refine retQ_ret results97 (Res.tmp rfl Res.nil) rfl (fun w' s => ⟨s.below, ?_⟩)
     exact rfl
    replace hm := ite_f hc5 hm
    refine WP.skip (bn (tn ?_))
    exact ⟨(Sub.all rfl), fun w' s => s, hm⟩
   rintro g' S' ⟨hsub4, hS4, hm⟩
   refine WP.sub hsub4 (WP.weaken hS4 ?_)
   replace hm := hk2.symm.trans hm
   refine WP.region (V rfl (ov_add rfl rfl rfl) (Vm rfl (WL.nil (tn ?_))))
   exact ⟨(IntKind.wrap .i64 (i1 + 1)), (Sub.all rfl), fun w' s => s, hm⟩
  replace hm := ite_f hc2 hm
  refine WP.exit (then_exit (then_exit (block_here (tn ?_))))
  exact ⟨(Sub.all rfl), fun w' s => s, hm⟩
 rintro g' S' ⟨hsub5, hS5, hm⟩
 refine WP.sub hsub5 (WP.weaken hS5 ?_)
 replace hm := hk1.symm.trans hm
 refine WP.seq (WP.region (Vm rfl (V rfl (ov_len_string underlying9 rfl rfl) (Va rfl (WL.nil (tn (WP.ret ?_)))))))
 obtain rfl := Option.some.inj hm
 refine retQ_ret results97 (Res.tmp rfl Res.nil) rfl (fun w' s => ⟨s.below, ?_⟩)
 exact rfl
theorem lexer_Word_con (p_s : (List UInt8)) (w : World) (H : Heap) (hH : Le H (hp w)) (hG : Glob H) (r : Int) (hm : lexer_Word p_s = some r) :
  Con prog 102 [(mkS p_s)] w H (fun v _ => v = (.int .i64 r)) := by
 unfold lexer_Word at hm
 refine con_of hH func102 rfl 24 ntmps102 rfl ?_
 refine WP.seq (WP.region (Va rfl (WL.nil (tn (WP.seq (WP.block (WP.seq (WP.region (Vm rfl (V rfl (ov_seql rfl rfl rfl) (Vm rfl ?_)))))))))))
 obtain ⟨c1, e1, hm⟩ := bind_some hm
 refine WL.cut_bool 5 11 (x := c1) ?_ ?_
 ·
  rcases Bool.eq_false_or_eq_true (p_s == []) with hc1 | hc1
  ·
   replace hm := ite_t hc1 e1
   refine Vi rfl (Idle.no rfl rfl rfl hc1) (Vi rfl (Idle.no rfl rfl rfl hc1) (Vi rfl (Idle.no rfl rfl rfl hc1) (Vi rfl (Idle.no rfl rfl rfl hc1) (V rfl (ov_pick_true rfl (guard_eq rfl hc1) rfl) ?_))))
   exact WL.nil ⟨Sub.cons' rfl (congrArg Value.bool (Option.some.inj hm)) (Sub.dropn 5 rfl), fun _ s => s⟩
  replace hm := ite_f hc1 e1
  refine wy hc1 rfl (ov_move rfl rfl) ?_
  obtain ⟨b1, e2, hm⟩ := bind_some hm
  refine wy hc1 rfl (ov_index_string underlying9 rfl rfl rfl e2) ?_
  obtain ⟨r1, e3, hm⟩ := bind_some hm
  refine WL.quiet (Runs.yes rfl rfl rfl hc1) rfl rfl (oq_con (r := (.int .i64 r1)) call96 rfl rfl (fun w' s => ⟨_, (lexer_class_con (b1.toNat : Int)  w' H s.hold hG r1 e3)⟩)) ?_
  refine wy hc1 rfl (ov_neq rfl rfl rfl) ?_
  refine V rfl (ov_pick_false rfl (guard_eq rfl hc1) rfl) ?_
  exact WL.nil ⟨Sub.cons' rfl (congrArg Value.bool (Option.some.inj hm)) (Sub.dropn 5 rfl), fun _ s => s⟩
 refine Vm rfl ?_
 obtain ⟨c2, e4, hm⟩ := bind_some hm
 refine WL.cut_bool 7 19 (x := c2) ?_ ?_
 ·
  rcases Bool.eq_false_or_eq_true c1 with hc2 | hc2
  ·
   replace hm := ite_t hc2 e4
   refine Vi rfl (Idle.no rfl rfl rfl hc2) (Vi rfl (Idle.no rfl rfl rfl hc2) (Vi rfl (Idle.no rfl rfl rfl hc2) (Vi rfl (Idle.no rfl rfl rfl hc2) (Vi rfl (Idle.no rfl rfl rfl hc2) (Vi rfl (Idle.no rfl rfl rfl hc2) (V rfl (ov_pick_true rfl (guard_eq rfl hc2) rfl) ?_))))))
   exact WL.nil ⟨Sub.cons' rfl (congrArg Value.bool (Option.some.inj hm)) (Sub.dropn 7 rfl), fun _ s => s⟩
  replace hm := ite_f hc2 e4
  refine wy hc2 rfl (ov_move rfl rfl) ?_
  have rl1 : RL H (encInt .i64) ([1, 2, 3] : List Int) [(.int .i64 1), (.int .i64 2), (.int .i64 3)] := RL.cons (cs := [(.int .i64 1)]) (xs := [(.int .i64 2), (.int .i64 3)]) rfl (RL.cons (cs := [(.int .i64 2)]) (xs := [(.int .i64 3)]) rfl (RL.cons (cs := [(.int .i64 3)]) (xs := []) rfl (RL.nil _ _)))
  refine WL.step (Runs.yes rfl rfl rfl hc2) rfl rfl (os_buildSlice (cs := [(.int .i64 1), (.int .i64 2), (.int .i64 3)]) (E := 3) (sz := 1) rfl rfl (fun _ => by kernel_rfl) rfl (by decide) (fun b2 => ?_))
  refine WL.held rl1 (fun H1 hc3 hle1 h1 => ?_)
  replace hG := hG.mono hle1
  obtain ⟨r2, e5, hm⟩ := bind_some hm
  refine WL.quiet (Runs.yes rfl rfl rfl hc2) rfl rfl (oq_con (r := (.int .i64 r2)) call97 rfl rfl (fun w' s => ⟨_, (lexer_run_con p_s ([1, 2, 3] : List Int) (some ⟨b2, 0, none⟩) 3  w' H1 s.hold h1 hc3 hG r2 e5)⟩)) ?_
  refine wy hc2 rfl (ov_move rfl rfl) ?_
  refine wy hc2 rfl (ov_len_string underlying9 rfl rfl) ?_
  refine wy hc2 rfl (ov_neq rfl rfl rfl) ?_
  refine V rfl (ov_pick_false rfl (guard_eq rfl hc2) rfl) ?_
  exact WL.nil ⟨Sub.cons' rfl (congrArg Value.bool (Option.some.inj hm)) (Sub.dropn 7 rfl), fun _ s => (s.heap hle1)⟩
 refine Va rfl (WL.nil (tn ?_))
 refine WP.cond rfl (fun hc4 => ?_) (fun hc4 => ?_)
 ·
  replace hm := ite_t hc4 hm
  refine WP.seq (WP.region (Va rfl (WL.nil (tn (WP.ret (block_ret (then_ret ?_)))))))
  obtain rfl := Option.some.inj hm
  refine retQ_ret results102 (Res.tmp rfl Res.nil) rfl (fun w' s => ⟨s.below, ?_⟩)
  exact rfl
 replace hm := ite_f hc4 hm
 refine WP.seq (WP.region (Vm rfl (V rfl (ov_len_string underlying9 rfl rfl) (V rfl (ov_gtr rfl rfl rfl) (Va rfl (WL.nil (tn ?_)))))))
 refine WP.cond rfl (fun hc5 => ?_) (fun hc5 => ?_)
 ·
  replace hm := ite_t hc5 hm
  refine WP.seq (WP.region (Va rfl (WL.nil (tn (WP.ret (block_ret (then_ret ?_)))))))
  obtain rfl := Option.some.inj hm
  refine retQ_ret results102 (Res.tmp rfl Res.nil) rfl (fun w' s => ⟨s.below, ?_⟩)
  exact rfl
 replace hm := ite_f hc5 hm
 refine WP.skip (bn (tn (WP.seq (WP.region (Va rfl (WL.nil (tn (WP.ret ?_))))))))
 obtain rfl := Option.some.inj hm
 refine retQ_ret results102 (Res.tmp rfl Res.nil) rfl (fun w' s => ⟨s.below, ?_⟩)
 exact rfl
theorem lexer_Number_con (p_s : (List UInt8)) (w : World) (H : Heap) (hH : Le H (hp w)) (hG : Glob H) (r : Int) (hm : lexer_Number p_s = some r) :
  Con prog 117 [(mkS p_s)] w H (fun v _ => v = (.int .i64 r)) := by
 unfold lexer_Number at hm
 refine con_of hH func117 rfl 27 ntmps117 rfl ?_
 refine WP.seq (WP.region (Va rfl (WL.nil (tn (WP.seq (WP.block (WP.seq (WP.region (Vm rfl (V rfl (ov_seql rfl rfl rfl) (Vm rfl ?_)))))))))))
 obtain ⟨c1, e1, hm⟩ := bind_some hm
 refine WL.cut_bool 7 13 (x := c1) ?_ ?_
 ·
  rcases Bool.eq_false_or_eq_true (p_s == []) with hc1 | hc1
  ·
   replace hm := ite_t hc1 e1
   refine Vi rfl (Idle.no rfl rfl rfl hc1) (Vi rfl (Idle.no rfl rfl rfl hc1) (Vi rfl (Idle.no rfl rfl rfl hc1) (Vi rfl (Idle.no rfl rfl rfl hc1) (Vi rfl (Idle.no rfl rfl rfl hc1) (Vi rfl (Idle.no rfl rfl rfl hc1) (V rfl (ov_pick_true rfl (guard_eq rfl hc1) rfl) ?_))))))
   exact WL.nil ⟨Sub.cons' rfl (congrArg Value.bool (Option.some.inj hm)) (Sub.dropn 7 rfl), fun _ s => s⟩
  replace hm := ite_f hc1 e1
  refine wy hc1 rfl (ov_move rfl rfl) ?_
  have rl1 : RL H (encInt .i64) ([2] : List Int) [(.int .i64 2)] := RL.cons (cs := [(.int .i64 2)]) (xs := []) rfl (RL.nil _ _)
  refine WL.step (Runs.yes rfl rfl rfl hc1) rfl rfl (os_buildSlice (cs := [(.int .i64 2)]) (E := 3) (sz := 1) rfl rfl (fun _ => by kernel_rfl) rfl (by decide) (fun b1 => ?_))
  refine WL.held rl1 (fun H1 hc2 hle1 h1 => ?_)
  replace hG := hG.mono hle1
  obtain ⟨r1, e2, hm⟩ := bind_some hm
  refine WL.quiet (Runs.yes rfl rfl rfl hc1) rfl rfl (oq_con (r := (.int .i64 r1)) call97 rfl rfl (fun w' s => ⟨_, (lexer_run_con p_s ([2] : List Int) (some ⟨b1, 0, none⟩) 1  w' H1 s.hold h1 hc2 hG r1 e2)⟩)) ?_
  refine wy hc1 rfl (ov_move rfl rfl) ?_
  refine wy hc1 rfl (ov_len_string underlying9 rfl rfl) ?_
  refine wy hc1 rfl (ov_neq rfl rfl rfl) ?_
  refine V rfl (ov_pick_false rfl (guard_eq rfl hc1) rfl) ?_
  exact WL.nil ⟨Sub.cons' rfl (congrArg Value.bool (Option.some.inj hm)) (Sub.dropn 7 rfl), fun _ s => (s.heap hle1)⟩
 refine Vm rfl ?_
 obtain ⟨c2, e3, hm⟩ := bind_some hm
 refine WL.cut_bool 8 22 (x := c2) ?_ ?_
 ·
  rcases Bool.eq_false_or_eq_true c1 with hc3 | hc3
  ·
   replace hm := ite_t hc3 e3
   refine Vi rfl (Idle.no rfl rfl rfl hc3) (Vi rfl (Idle.no rfl rfl rfl hc3) (Vi rfl (Idle.no rfl rfl rfl hc3) (Vi rfl (Idle.no rfl rfl rfl hc3) (Vi rfl (Idle.undef rfl rfl rfl) (Vi rfl (Idle.undef rfl rfl rfl) (Vi rfl (Idle.no rfl rfl rfl hc3) (V rfl (ov_pick_true rfl (guard_eq rfl hc3) rfl) ?_)))))))
   exact WL.nil ⟨Sub.cons' rfl (congrArg Value.bool (Option.some.inj hm)) (Sub.dropn 8 rfl), fun _ s => s⟩
  replace hm := ite_f hc3 e3
  refine wy hc3 rfl (ov_move rfl rfl) ?_
  obtain ⟨b2, e4, hm⟩ := bind_some hm
  refine wy hc3 rfl (ov_index_string underlying9 rfl rfl rfl e4) ?_
  refine wy hc3 rfl (ov_eql rfl rfl rfl) ?_
  refine wy hc3 rfl (ov_move rfl rfl) ?_
  refine WL.cut_bool 3 21 (x := (((b2.toNat : Int) == 48) && (!(p_s == [48])))) ?_ ?_
  ·
   rcases Bool.eq_false_or_eq_true ((b2.toNat : Int) == 48) with hc4 | hc4
   ·
    refine wy hc4 rfl (ov_move rfl rfl) ?_
    refine wy hc4 rfl (ov_sneq rfl rfl rfl) ?_
    refine wy hc3 rfl (ov_pick_true rfl (guard_eq rfl hc4) rfl) ?_
    exact WL.nil ⟨Sub.cons' rfl (congrArg Value.bool (andT hc4)) (Sub.dropn 3 rfl), fun _ s => s⟩
   refine Vi rfl (Idle.no rfl rfl rfl hc4) (Vi rfl (Idle.no rfl rfl rfl hc4) ?_)
   refine wy hc3 rfl (ov_pick_false rfl (guard_eq rfl hc4) rfl) ?_
   exact WL.nil ⟨Sub.cons' rfl (congrArg Value.bool (andF hc4)) (Sub.dropn 3 rfl), fun _ s => s⟩
  refine V rfl (ov_pick_false rfl (guard_eq rfl hc3) rfl) ?_
  exact WL.nil ⟨Sub.cons' rfl (congrArg Value.bool (Option.some.inj hm)) (Sub.dropn 6 rfl), fun _ s => s⟩
 refine Va rfl (WL.nil (tn ?_))
 refine WP.cond rfl (fun hc5 => ?_) (fun hc5 => ?_)
 ·
  replace hm := ite_t hc5 hm
  refine WP.seq (WP.region (Va rfl (WL.nil (tn (WP.ret (block_ret (then_ret ?_)))))))
  obtain rfl := Option.some.inj hm
  refine retQ_ret results117 (Res.tmp rfl Res.nil) rfl (fun w' s => ⟨s.below, ?_⟩)
  exact rfl
 replace hm := ite_f hc5 hm
 refine WP.seq (WP.region (Vm rfl (V rfl (ov_len_string underlying9 rfl rfl) (V rfl (ov_gtr rfl rfl rfl) (Va rfl (WL.nil (tn ?_)))))))
 refine WP.cond rfl (fun hc6 => ?_) (fun hc6 => ?_)
 ·
  replace hm := ite_t hc6 hm
  refine WP.seq (WP.region (Va rfl (WL.nil (tn (WP.ret (block_ret (then_ret ?_)))))))
  obtain rfl := Option.some.inj hm
  refine retQ_ret results117 (Res.tmp rfl Res.nil) rfl (fun w' s => ⟨s.below, ?_⟩)
  exact rfl
 replace hm := ite_f hc6 hm
 refine WP.skip (bn (tn (WP.seq (WP.region (Va rfl (WL.nil (tn (WP.ret ?_))))))))
 obtain rfl := Option.some.inj hm
 refine retQ_ret results117 (Res.tmp rfl Res.nil) rfl (fun w' s => ⟨s.below, ?_⟩)
 exact rfl
theorem lexer_Scan_con (p_text : (List UInt8)) (w : World) (H : Heap) (hH : Le H (hp w)) (hG : Glob H) (r : ((List Token) × Int × Int)) (hm : lexer_Scan p_text = some r) :
  Con prog 37 [(mkS p_text)] w H (fun v H' => ∃ (ao1 : Option Addr) (cap1 : Nat), v = (.tuple #[(.slice ao1 r.1.length cap1), (.int .i64 r.2.1), (.int .i64 r.2.2)]) ∧ SL H' encToken ao1 r.1 ∧ r.1.length ≤ cap1) := by
 unfold lexer_Scan at hm
 refine con_of hH func37 rfl 25 ntmps37 rfl ?_
 refine WP.seq (WP.region ?_)
 refine ws rfl (os_alloc (cs := [(.slice none 0 0)]) zeroValue83 rfl rfl (fun b1 => ?_))
 refine ws rfl (os_alloc (cs := [(.int .i64 0)]) zeroValue3 rfl rfl (fun b2 => ?_))
 refine ws rfl (os_alloc (cs := [(.int .i64 0)]) zeroValue34 rfl rfl (fun b3 => ?_))
 refine WL.nil (tn (WP.seq (WP.seq (WP.region (Vm rfl (V rfl (ov_len_string underlying9 rfl rfl) (V rfl (ov_gtr rfl rfl rfl) (WL.nil (tn ?_)))))))))
 refine WP.cond rfl (fun hc2 => ?_) (fun hc2 => ?_)
 ·
  replace hm := ite_t hc2 hm
  refine WP.seq (WP.region ?_)
  refine ws0 rfl (os_store (i := 2) (vs := [(.slice none 0 0)]) (cs' := [(.slice none 0 0)]) sizeOf83 rfl rfl rfl rfl rfl rfl rfl rfl rfl ?_)
  refine ws0 rfl (os_store (i := 1) (vs := [(.int .i64 0)]) (cs' := [(.int .i64 0)]) sizeOf3 rfl rfl rfl rfl rfl rfl rfl rfl rfl ?_)
  refine ws0 rfl (os_store (i := 0) (vs := [(.int .i64 17)]) (cs' := [(.int .i64 17)]) sizeOf34 rfl rfl rfl rfl rfl rfl rfl rfl rfl ?_)
  refine WL.nil (tn (WP.ret (then_ret ?_)))
  obtain rfl := Option.some.inj hm
  refine retQ_ret results37 (Res.cell rfl (box_load (i := 2) isAgg83 rfl) (Res.cell rfl (box_load (i := 1) isAgg3 rfl) (Res.cell rfl (box_load (i := 0) isAgg34 rfl) Res.nil))) rfl (fun w' s => ⟨s.below, ?_⟩)
  exact ⟨none, 0, rfl, SL.nil _ _ _, Nat.le_refl _⟩
 replace hm := ite_f hc2 hm
 refine WP.skip (tn (WP.seq (WP.region ?_)))
 refine ws rfl (os_alloc (cs := [(.slice none 0 0)]) zeroValue83 rfl rfl (fun b4 => ?_))
 refine WL.nil (tn (WP.seq (WP.seq (WP.region (Vm rfl ?_)))))
 refine ws rfl (os_inline (cap := []) (vs := [(mkS p_text)]) call64 rfl rfl rfl func64 rfl 6 ntmps64 rfl (fun w' s => ?_))
 refine WP.seq (WP.region ?_)
 refine ws rfl (os_box (cs := [(mkS p_text)]) rfl rfl rfl (fun b5 => ?_))
 refine Va rfl (WL.nil (tn (WP.seq (WP.region ?_))))
 refine ws rfl (os_inline (cap := []) (vs := []) call94 rfl rfl rfl func94 rfl 8 ntmps94 rfl (fun w' s => ?_))
 refine WP.seq (WP.region ?_)
 refine ws rfl (os_alloc (cs := [(.int .i64 0), (.slice none 0 0), .nilFunc, (.int .i64 0), (.slice none 0 0), .nilFunc, (.int .i64 0), (.slice none 0 0), .nilFunc, (.int .i64 0), (.slice none 0 0), .nilFunc, (.int .i64 0), (.slice none 0 0), .nilFunc, (.int .i64 0), (.slice none 0 0), .nilFunc]) zeroValue167 rfl rfl (fun b6 => ?_))
 refine WL.nil (tn (WP.seq (WP.region ?_)))
 have rl1 : RL H (encInt .i64) ([1, 2, 3] : List Int) [(.int .i64 1), (.int .i64 2), (.int .i64 3)] := RL.cons (cs := [(.int .i64 1)]) (xs := [(.int .i64 2), (.int .i64 3)]) rfl (RL.cons (cs := [(.int .i64 2)]) (xs := [(.int .i64 3)]) rfl (RL.cons (cs := [(.int .i64 3)]) (xs := []) rfl (RL.nil _ _)))
 refine ws rfl (os_buildSlice (cs := [(.int .i64 1), (.int .i64 2), (.int .i64 3)]) (E := 3) (sz := 1) rfl rfl (fun _ => by kernel_rfl) rfl (by decide) (fun b7 => ?_))
 refine WL.held rl1 (fun H1 hc3 hle1 h2 => ?_)
 replace hG := hG.mono hle1
 refine V rfl (ov_build (r := (.agg #[(.int .i64 0), (.slice (some ⟨b7, 0, none⟩) ([1, 2, 3] : List Int).length 3), (.func (.func 102) #[] #[])])) rfl rfl (fun _ => by kernel_rfl)) ?_
 have rl2 : RL H1 (encInt .i64) ([2] : List Int) [(.int .i64 2)] := RL.cons (cs := [(.int .i64 2)]) (xs := []) rfl (RL.nil _ _)
 refine ws rfl (os_buildSlice (cs := [(.int .i64 2)]) (E := 3) (sz := 1) rfl rfl (fun _ => by kernel_rfl) rfl (by decide) (fun b8 => ?_))
 refine WL.held rl2 (fun H2 hc4 hle2 h3 => ?_)
 replace h2 := h2.mono hle2
 replace hG := hG.mono hle2
 refine V rfl (ov_build (r := (.agg #[(.int .i64 1), (.slice (some ⟨b8, 0, none⟩) ([2] : List Int).length 1), (.func (.func 117) #[] #[])])) rfl rfl (fun _ => by kernel_rfl)) (V rfl (ov_build (r := (.agg #[(.int .i64 2), (.slice none 0 0), (.func (.func 118) #[] #[])])) rfl rfl (fun _ => by kernel_rfl)) (V rfl (ov_build (r := (.agg #[(.int .i64 0), (.slice none 0 0), .nilFunc])) rfl rfl (fun _ => by kernel_rfl)) (V rfl (ov_build (r := (.agg #[(.int .i64 0), (.slice none 0 0), .nilFunc, (.int .i64 0), (.slice (some ⟨b7, 0, none⟩) ([1, 2, 3] : List Int).length 3), (.func (.func 102) #[] #[]), (.int .i64 1), (.slice (some ⟨b8, 0, none⟩) ([2] : List Int).length 1), (.func (.func 117) #[] #[]), (.int .i64 0), (.slice none 0 0), .nilFunc, (.int .i64 2), (.slice none 0 0), (.func (.func 118) #[] #[]), (.int .i64 0), (.slice none 0 0), .nilFunc])) rfl rfl (fun _ => by kernel_rfl)) ?_)))
 refine ws0 rfl (os_store (i := 0) (vs := [(.int .i64 0), (.slice none 0 0), .nilFunc, (.int .i64 0), (.slice (some ⟨b7, 0, none⟩) ([1, 2, 3] : List Int).length 3), (.func (.func 102) #[] #[]), (.int .i64 1), (.slice (some ⟨b8, 0, none⟩) ([2] : List Int).length 1), (.func (.func 117) #[] #[]), (.int .i64 0), (.slice none 0 0), .nilFunc, (.int .i64 2), (.slice none 0 0), (.func (.func 118) #[] #[]), (.int .i64 0), (.slice none 0 0), .nilFunc]) (cs' := [(.int .i64 0), (.slice none 0 0), .nilFunc, (.int .i64 0), (.slice (some ⟨b7, 0, none⟩) ([1, 2, 3] : List Int).length 3), (.func (.func 102) #[] #[]), (.int .i64 1), (.slice (some ⟨b8, 0, none⟩) ([2] : List Int).length 1), (.func (.func 117) #[] #[]), (.int .i64 0), (.slice none 0 0), .nilFunc, (.int .i64 2), (.slice none 0 0), (.func (.func 118) #[] #[]), (.int .i64 0), (.slice none 0 0), .nilFunc]) sizeOf167 rfl rfl rfl rfl rfl rfl rfl rfl rfl ?_)
 refine WL.nil (tn (WP.ret ?_))
 refine retQ_ret (v := (.agg #[(.int .i64 0), (.slice none 0 0), .nilFunc, (.int .i64 0), (.slice (some ⟨b7, 0, none⟩) ([1, 2, 3] : List Int).length 3), (.func (.func 102) #[] #[]), (.int .i64 1), (.slice (some ⟨b8, 0, none⟩) ([2] : List Int).length 1), (.func (.func 117) #[] #[]), (.int .i64 0), (.slice none 0 0), .nilFunc, (.int .i64 2), (.slice none 0 0), (.func (.func 118) #[] #[]), (.int .i64 0), (.slice none 0 0), .nilFunc])) results94 (Res.cell rfl (box_loads (i := 0) isAgg167 sizeOf167 rfl rfl) Res.nil) rfl (fun w' s => ⟨_, ?_, s⟩)
 refine ws rfl (os_alloc (cs := [(.int .i64 0), (.slice none 0 0), .nilFunc, (.int .i64 0), (.slice none 0 0), .nilFunc, (.int .i64 0), (.slice none 0 0), .nilFunc, (.int .i64 0), (.slice none 0 0), .nilFunc, (.int .i64 0), (.slice none 0 0), .nilFunc, (.int .i64 0), (.slice none 0 0), .nilFunc]) zeroValue167 rfl rfl (fun b9 => ?_))
 refine ws0 rfl (os_store (i := 0) (vs := [(.int .i64 0), (.slice none 0 0), .nilFunc, (.int .i64 0), (.slice (some ⟨b7, 0, none⟩) ([1, 2, 3] : List Int).length 3), (.func (.func 102) #[] #[]), (.int .i64 1), (.slice (some ⟨b8, 0, none⟩) ([2] : List Int).length 1), (.func (.func 117) #[] #[]), (.int .i64 0), (.slice none 0 0), .nilFunc, (.int .i64 2), (.slice none 0 0), (.func (.func 118) #[] #[]), (.int .i64 0), (.slice none 0 0), .nilFunc]) (cs' := [(.int .i64 0), (.slice none 0 0), .nilFunc, (.int .i64 0), (.slice (some ⟨b7, 0, none⟩) ([1, 2, 3] : List Int).length 3), (.func (.func 102) #[] #[]), (.int .i64 1), (.slice (some ⟨b8, 0, none⟩) ([2] : List Int).length 1), (.func (.func 117) #[] #[]), (.int .i64 0), (.slice none 0 0), .nilFunc, (.int .i64 2), (.slice none 0 0), (.func (.func 118) #[] #[]), (.int .i64 0), (.slice none 0 0), .nilFunc]) sizeOf167 rfl rfl rfl rfl rfl rfl rfl rfl rfl ?_)
 refine WL.nil (tn (WP.seq (WP.region (V rfl (ov_makeFunc' (first := []) rfl rfl rfl) (Va rfl (WL.nil (tn (WP.ret ?_))))))))
 refine retQ_ret (v := (.func (.func 95) #[] #[(pB b5 0), (pB b9 0)])) results64 (Res.tmp rfl Res.nil) rfl (fun w' s => ⟨_, ?_, s⟩)
 refine WL.nil (tn (WP.block ?_))
 refine WP.range (ps := [13, 14]) (cap := [(pB b5 0), (pB b9 0)]) call95 rfl func95 rfl 70 ntmps95 rfl (fun l1 D1 R1 hr1 => ?_)
 obtain ⟨k1, hk1, hm⟩ := joinK_some hm
 refine WP.seq_join (fun g' S' => ∃ (l9 : (List Token)) (ao9 : Option Addr) (cap9 : Nat) (xs2 : List Value), RL H2 encToken l9 xs2 ∧ Sub [(0, (.func (.yield l1) #[] #[])), (1, (pB b5 0)), (1000000007, (.bool false))] g' ∧ (∀ w', S' w' → St w H [.row 91 (encToken).size l9.length (.slice ao9 l9.length cap9) xs2, .obj l1 (R1 .ready none), .obj D1 (.deferred (some [])), .blk b9 167 [(.int .i64 0), (.slice none 0 0), .nilFunc, (.int .i64 0), (.slice (some ⟨b7, 0, none⟩) ([1, 2, 3] : List Int).length 3), (.func (.func 102) #[] #[]), (.int .i64 1), (.slice (some ⟨b8, 0, none⟩) ([2] : List Int).length 1), (.func (.func 117) #[] #[]), (.int .i64 0), (.slice none 0 0), .nilFunc, (.int .i64 2), (.slice none 0 0), (.func (.func 118) #[] #[]), (.int .i64 0), (.slice none 0 0), .nilFunc], .blk b5 9 [(mkS p_text)], .blk b4 83 [(.slice ao9 l9.length cap9)], .blk b3 34 [(.int .i64 0)], .blk b2 3 [(.int .i64 0)], .blk b1 83 [(.slice none 0 0)]] H2 w') ∧ k1 l9 = some r) ?_ ?_
 ·
  refine WP.seq (WP.region (Va rfl (WL.nil (tn (WP.block ?_)))))
  have rl3 := RL.nil (α := Token) H2 encToken
  refine WP.weaken (fun _ s => s.nilrow 91 (encToken).size) ?_
  refine WP.loop (fun m1 g' S' => ∃ (i1 : Int) (l2 : (List Token)) (ao2 : Option Addr) (cap2 : Nat) (xs1 : List Value), RL H2 encToken l2 xs1 ∧ Sub [(0, (.func (.yield l1) #[] #[])), (1, (pB b5 0)), (2, (pB b9 0)), (4, (.int .i64 i1)), (1000000007, (.bool false))] g' ∧ (∀ w', S' w' → St w H [.row 91 (encToken).size l2.length (.slice ao2 l2.length cap2) xs1, .obj l1 (R1 .ready none), .obj D1 (.deferred (some [])), .blk b9 167 [(.int .i64 0), (.slice none 0 0), .nilFunc, (.int .i64 0), (.slice (some ⟨b7, 0, none⟩) ([1, 2, 3] : List Int).length 3), (.func (.func 102) #[] #[]), (.int .i64 1), (.slice (some ⟨b8, 0, none⟩) ([2] : List Int).length 1), (.func (.func 117) #[] #[]), (.int .i64 0), (.slice none 0 0), .nilFunc, (.int .i64 2), (.slice none 0 0), (.func (.func 118) #[] #[]), (.int .i64 0), (.slice none 0 0), .nilFunc], .blk b5 9 [(mkS p_text)], .blk b4 83 [(.slice ao2 l2.length cap2)], .blk b3 34 [(.int .i64 0)], .blk b2 3 [(.int .i64 0)], .blk b1 83 [(.slice none 0 0)]] H2 w') ∧ lexer_Scan_loop1 p_text k1 m1 i1 l2 = some r) ((Int.toNat ((p_text.length : Int) - 0) + 1)) ⟨0, ([] : List Token), none, 0, [], rl3, (Sub.all rfl), fun w' s => (s.select [0, 1, 2, 3, 5, 6, 7, 8, 9] (by decide) rfl), hm⟩ ?_ ?_
  ·
   rintro g' S' ⟨_, _, _, _, _, _, _, _, hm⟩
   exact none_some hm
  rintro m1 g' S' ⟨i1, l2, ao2, cap2, xs1, rl4, hsub1, hS1, hm⟩
  refine WP.sub hsub1 (WP.weaken hS1 ?_)
  rw [lexer_Scan_loop1] at hm
  refine WP.seq (WP.seq (WP.region (Vm rfl (Vl 4 isAgg9 rfl (V rfl (ov_len_string underlying9 rfl rfl) (V rfl (ov_lss rfl rfl rfl) (WL.nil (tn ?_))))))))
  refine WP.cond rfl (fun hc5 => ?_) (fun hc5 => ?_)
  ·
   replace hm := ite_t hc5 hm
   refine WP.skip (tn (WP.block (WP.seq (WP.region (Vl 4 isAgg9 rfl (Vm rfl ?_))))))
   obtain ⟨b10, e1, hm⟩ := bind_some hm
   refine V rfl (ov_index_string underlying9 rfl rfl rfl e1) ?_
   obtain ⟨r1, e2, hm⟩ := bind_some hm
   refine wo rfl (oq_con (r := (.int .i64 r1)) call96 rfl rfl (fun w' s => ⟨_, (lexer_class_con (b10.toNat : Int)  w' H2 s.hold hG r1 e2)⟩)) ?_
   refine Va rfl (WL.nil (tn (WP.seq (WP.seq (WP.region (Vm rfl (V rfl (ov_eql rfl rfl rfl) (WL.nil (tn ?_)))))))))
   refine WP.cond rfl (fun hc6 => ?_) (fun hc6 => ?_)
   ·
    replace hm := ite_t hc6 hm
    refine WP.seq (WP.region (Vm rfl (V rfl (ov_add rfl rfl rfl) (Va rfl (WL.nil (tn (WP.exit (then_exit (block_here (tn ?_))))))))))
    exact ⟨(IntKind.wrap .i64 (i1 + 1)), l2, ao2, cap2, xs1, rl4, (Sub.all rfl), fun w' s => s, hm⟩
   replace hm := ite_f hc6 hm
   refine WP.skip (tn (WP.seq (WP.region (Vm rfl ?_))))
   rcases Bool.eq_false_or_eq_true (r1 == 0) with hc7 | hc7
   ·
    replace hm := ite_t hc7 hm
    refine V rfl (ov_indexAddr_at (j := 0) underlying167 sizeOf166 rfl rfl rfl (eq_of_beq hc7) rfl) (V rfl (ov_load_boxes (i := 3) (vs := [(.int .i64 0), (.slice none 0 0), .nilFunc]) isAgg166 sizeOf166 rfl rfl rfl rfl (part_of rfl)) ?_)
    refine ws rfl (os_alloc (cs := [(.int .i64 0), (.slice none 0 0), .nilFunc]) zeroValue166 rfl rfl (fun b11 => ?_))
    refine ws0 rfl (os_store (i := 0) (vs := [(.int .i64 0), (.slice none 0 0), .nilFunc]) (cs' := [(.int .i64 0), (.slice none 0 0), .nilFunc]) sizeOf166 rfl rfl rfl rfl rfl rfl rfl rfl rfl ?_)
    refine WL.nil (tn (WP.seq (WP.seq (WP.region (V rfl (ov_fieldAddr underlying166 rfl rfl rfl sizeOf164 rfl rfl) (Vl 0 isAgg164 rfl (V rfl (ov_binOp (r := .bool true) rfl rfl rfl eqGuard_nofn (fun _ => by kernel_rfl)) (WL.nil (tn (WP.cond_true rfl (WP.seq (WP.region (Vm rfl ?_)))))))))))))
    refine Vm rfl (V rfl (ov_build (r := (.agg #[(.int .i64 0), (mkS []), (.int .i64 i1)])) rfl rfl (fun _ => by kernel_rfl)) ?_)
    refine WL.yield (i := 2) (vs := [(.agg #[(.int .i64 0), (mkS []), (.int .i64 i1)]), (.int .i64 4)]) (Runs.free rfl) rfl rfl rfl rfl rfl hr1 rfl rfl rfl ?_
    refine WP.seq (WP.region ?_)
    refine ws rfl (os_alloc (cs := [(.int .i64 0), (mkS []), (.int .i64 0)]) zeroValue91 rfl rfl (fun b12 => ?_))
    refine ws0 rfl (os_store (i := 0) (vs := [(.int .i64 0), (mkS []), (.int .i64 i1)]) (cs' := [(.int .i64 0), (mkS []), (.int .i64 i1)]) sizeOf91 rfl rfl rfl rfl rfl rfl rfl rfl rfl ?_)
    refine WL.nil (tn (WP.region (Va rfl (WL.nil (tn ?_)))))
    refine begin_of (i := 3) rfl ?_
    refine WP.block (WP.seq (WP.seq (WP.region (Vm rfl (V rfl (ov_neq rfl rfl rfl) (WL.nil (tn ?_)))))))
    refine WP.cond rfl (fun hc8 => ?_) (fun hc8 => ?_)
    ·
     replace hm := ite_t hc8 hm
     refine WP.seq ?_
     refine WP.region_anyF (S₀ := St w H [.blk b12 91 [(.int .i64 0), (mkS []), (.int .i64 i1)], .blk b11 166 [(.int .i64 0), (.slice none 0 0), .nilFunc], .row 91 (encToken).size l2.length (.slice ao2 l2.length cap2) xs1, .obj l1 (R1 .busy none), .obj D1 (.deferred (some [])), .blk b9 167 [(.int .i64 0), (.slice none 0 0), .nilFunc, (.int .i64 0), (.slice (some ⟨b7, 0, none⟩) ([1, 2, 3] : List Int).length 3), (.func (.func 102) #[] #[]), (.int .i64 1), (.slice (some ⟨b8, 0, none⟩) ([2] : List Int).length 1), (.func (.func 117) #[] #[]), (.int .i64 0), (.slice none 0 0), .nilFunc, (.int .i64 2), (.slice none 0 0), (.func (.func 118) #[] #[]), (.int .i64 0), (.slice none 0 0), .nilFunc], .blk b5 9 [(mkS p_text)], .blk b4 83 [(.slice ao2 l2.length cap2)]] H2) 6 rfl (by kernel_rfl) (by kernel_rfl) (fun w' s => (s.select [0, 1, 2, 3, 4, 5, 6, 7] (by decide) rfl)) (fun _ s => s.drew) ?_
     refine TQ 0 (by kernel_rfl) rfl (ov_fieldAddr underlying91 rfl rfl rfl sizeOf3 rfl rfl) (TQ 1 (by kernel_rfl) rfl (ov_load_box (i := 0) isAgg3 rfl rfl rfl rfl) (TQ 2 (by kernel_rfl) rfl (ov_move rfl rfl) ?_))
     refine AL.any (rs := [3]) (by kernel_rfl) (by decide) ?_
     refine ALs.cons0 (i := 3) rfl (Runs.free rfl) rfl ?_ ?_
     ·
      refine os_store (i := 10) (vs := [(.slice none 0 0)]) (cs' := [(.slice none 0 0)]) sizeOf83 rfl rfl rfl rfl rfl rfl rfl rfl rfl ?_
      refine ⟨fun w' s => (s.select [0, 1, 2, 3, 4, 5, 6, 7] (by decide) rfl), ?_⟩
      refine AL.any (rs := [4]) (by kernel_rfl) (by decide) ?_
      refine ALs.cons0 (i := 4) rfl (Runs.free rfl) rfl ?_ ?_
      ·
       refine os_store (i := 9) (vs := [(.int .i64 i1)]) (cs' := [(.int .i64 i1)]) sizeOf3 rfl rfl rfl rfl rfl rfl rfl rfl rfl ?_
       refine ⟨fun w' s => (s.select [0, 1, 2, 3, 4, 5, 6, 7] (by decide) rfl), ?_⟩
       refine AL.any (rs := [5]) (by kernel_rfl) (by decide) ?_
       refine ALs.cons0 (i := 5) rfl (Runs.free rfl) rfl ?_ ?_
       ·
        refine os_store (i := 8) (vs := [(.int .i64 4)]) (cs' := [(.int .i64 4)]) sizeOf34 rfl rfl rfl rfl rfl rfl rfl rfl rfl ?_
        refine ⟨fun w' s => (s.select [0, 1, 2, 3, 4, 5, 6, 7] (by decide) rfl), ?_⟩
        refine AL.done (by kernel_rfl) ?_
        refine tn (WP.ret (then_ret (block_ret ?_)))
        refine round_ret (i := 3) rfl ?_
        refine WL.nil (tn (WP.ret (then_ret (block_ret (then_ret (block_ret (then_ret ?_)))))))
        refine retQ_ret (v := (.tuple #[])) results95 Res.nil rfl (fun w' s => ⟨St w H [.obj l1 (R1 .done (some .ret)), .obj D1 (.deferred (some [])), .blk b12 91 [(.int .i64 0), (mkS []), (.int .i64 i1)], .blk b11 166 [(.int .i64 0), (.slice none 0 0), .nilFunc], .row 91 (encToken).size l2.length (.slice ao2 l2.length cap2) xs1, .blk b9 167 [(.int .i64 0), (.slice none 0 0), .nilFunc, (.int .i64 0), (.slice (some ⟨b7, 0, none⟩) ([1, 2, 3] : List Int).length 3), (.func (.func 102) #[] #[]), (.int .i64 1), (.slice (some ⟨b8, 0, none⟩) ([2] : List Int).length 1), (.func (.func 117) #[] #[]), (.int .i64 0), (.slice none 0 0), .nilFunc, (.int .i64 2), (.slice none 0 0), (.func (.func 118) #[] #[]), (.int .i64 0), (.slice none 0 0), .nilFunc], .blk b5 9 [(mkS p_text)], .blk b4 83 [(.slice ao2 l2.length cap2)], .blk b3 34 [(.int .i64 4)], .blk b2 3 [(.int .i64 i1)], .blk b1 83 [(.slice none 0 0)]] H2, ?_, (s.select [3, 4, 0, 1, 2, 5, 6, 7, 8, 9, 10] (by decide) rfl)⟩)
        refine after_ret ?_
        refine block_ret (then_ret ?_)
        obtain rfl := Option.some.inj hm
        refine retQ_retM (i := 0) rfl results37 (Res.cell rfl (box_load (i := 8) isAgg83 rfl) (Res.cell rfl (box_load (i := 7) isAgg3 rfl) (Res.cell rfl (box_load (i := 6) isAgg34 rfl) Res.nil))) rfl (fun w' s => ⟨s.below, ?_⟩)
        exact ⟨none, 0, rfl, SL.nil _ _ _, Nat.le_refl _⟩
       exact ALs.nil
      exact ALs.nil
     exact ALs.nil
    replace hm := ite_f hc8 hm
    refine WP.skip (tn (WP.region (Vl 7 isAgg83 rfl (V rfl (ov_load_whole (i := 0) isAgg91 sizeOf91 rfl rfl rfl rfl) ?_))))
    have rl5 : RL H2 encToken ([(Token.mk 0 [] i1)] : List Token) [(.int .i64 0), (mkS []), (.int .i64 i1)] := RL.cons (cs := [(.int .i64 0), (mkS []), (.int .i64 i1)]) (xs := []) rfl (RL.nil _ _)
    refine ws rfl (os_buildSlice (cs := [(.int .i64 0), (mkS []), (.int .i64 i1)]) (E := 91) (sz := 3) rfl rfl (fun _ => by kernel_rfl) rfl (by decide) (fun b13 => ?_))
    obtain ⟨l3, e3, hm⟩ := bind_some hm
    refine ws rfl (os_app (i := 3) (j := 0) (En := encToken) (xs := xs1) (ys := [(.int .i64 0), (mkS []), (.int .i64 i1)]) underlying83 (by kernel_rfl : (prog.info? 91).map (fun i => (i.zero, i.size, i.bytes)) = some (some (.agg #[(.int .i64 0), (mkS []), (.int .i64 0)]), (encToken).size, 32)) rfl (by decide) rfl rfl rfl rfl rfl rfl rl4 rl5 e3 (fun ao3 cap3 rl6 => ?_))
    refine ws0 rfl (os_store (i := 8) (vs := [(.slice ao3 (l2 ++ ([(Token.mk 0 [] i1)] : List Token)).length cap3)]) (cs' := [(.slice ao3 (l2 ++ ([(Token.mk 0 [] i1)] : List Token)).length cap3)]) sizeOf83 rfl rfl rfl rfl rfl rfl rfl rfl rfl ?_)
    refine WL.nil (bn ?_)
    refine round_normal (i := 4) rfl ?_
    refine WL.nil (tn (WP.ret (then_ret (block_ret (then_ret (block_ret (then_ret ?_)))))))
    refine retQ_ret (v := (.tuple #[])) results95 Res.nil rfl (fun w' s => ⟨St w H [.obj l1 (R1 .ready none), .obj D1 (.deferred (some [])), .row 91 (encToken).size ([(Token.mk 0 [] i1)] : List Token).length (.slice (some ⟨b13, 0, none⟩) ([(Token.mk 0 [] i1)] : List Token).length 1) [(.int .i64 0), (mkS []), (.int .i64 i1)], .blk b12 91 [(.int .i64 0), (mkS []), (.int .i64 i1)], .blk b11 166 [(.int .i64 0), (.slice none 0 0), .nilFunc], .row 91 (encToken).size (l2 ++ ([(Token.mk 0 [] i1)] : List Token)).length (.slice ao3 (l2 ++ ([(Token.mk 0 [] i1)] : List Token)).length cap3) (xs1 ++ [(.int .i64 0), (mkS []), (.int .i64 i1)]), .blk b9 167 [(.int .i64 0), (.slice none 0 0), .nilFunc, (.int .i64 0), (.slice (some ⟨b7, 0, none⟩) ([1, 2, 3] : List Int).length 3), (.func (.func 102) #[] #[]), (.int .i64 1), (.slice (some ⟨b8, 0, none⟩) ([2] : List Int).length 1), (.func (.func 117) #[] #[]), (.int .i64 0), (.slice none 0 0), .nilFunc, (.int .i64 2), (.slice none 0 0), (.func (.func 118) #[] #[]), (.int .i64 0), (.slice none 0 0), .nilFunc], .blk b5 9 [(mkS p_text)], .blk b4 83 [(.slice ao3 (l2 ++ ([(Token.mk 0 [] i1)] : List Token)).length cap3)], .blk b3 34 [(.int .i64 0)], .blk b2 3 [(.int .i64 0)], .blk b1 83 [(.slice none 0 0)]] H2, ?_, (s.select [4, 5, 0, 1, 2, 3, 6, 7, 8, 9, 10, 11] (by decide) rfl)⟩)
    refine after_normal ?_
    refine bn (tn (WP.seq (WP.region (Vl 7 isAgg83 rfl ?_))))
    refine ws0 rfl (os_store (i := 10) (vs := [(.slice ao3 (l2 ++ ([(Token.mk 0 [] i1)] : List Token)).length cap3)]) (cs' := [(.slice ao3 (l2 ++ ([(Token.mk 0 [] i1)] : List Token)).length cap3)]) sizeOf83 rfl rfl rfl rfl rfl rfl rfl rfl rfl ?_)
    refine ws0 rfl (os_store (i := 9) (vs := [(.int .i64 0)]) (cs' := [(.int .i64 0)]) sizeOf3 rfl rfl rfl rfl rfl rfl rfl rfl rfl ?_)
    refine ws0 rfl (os_store (i := 8) (vs := [(.int .i64 0)]) (cs' := [(.int .i64 0)]) sizeOf34 rfl rfl rfl rfl rfl rfl rfl rfl rfl ?_)
    refine WL.nil (tn (WP.ret ?_))
    obtain rfl := Option.some.inj hm
    refine retQ_retM (i := 0) rfl results37 (Res.cell rfl (box_load (i := 9) isAgg83 rfl) (Res.cell rfl (box_load (i := 8) isAgg3 rfl) (Res.cell rfl (box_load (i := 7) isAgg34 rfl) Res.nil))) rfl (fun w' s => ⟨s.below, ?_⟩)
    obtain ⟨h4, hc9⟩ := s.ret_row (i := 3) rfl rl6
    exact ⟨ao3, cap3, rfl, h4, hc9⟩
   replace hm := ite_f hc7 hm
   rcases Bool.eq_false_or_eq_true (r1 == 1) with hc10 | hc10
   ·
    replace hm := ite_t hc10 hm
    refine V rfl (ov_indexAddr_at (j := 1) underlying167 sizeOf166 rfl rfl rfl (eq_of_beq hc10) rfl) (V rfl (ov_load_boxes (i := 3) (vs := [(.int .i64 0), (.slice (some ⟨b7, 0, none⟩) ([1, 2, 3] : List Int).length 3), (.func (.func 102) #[] #[])]) isAgg166 sizeOf166 rfl rfl rfl rfl (part_of rfl)) ?_)
    refine ws rfl (os_alloc (cs := [(.int .i64 0), (.slice none 0 0), .nilFunc]) zeroValue166 rfl rfl (fun b14 => ?_))
    refine ws0 rfl (os_store (i := 0) (vs := [(.int .i64 0), (.slice (some ⟨b7, 0, none⟩) ([1, 2, 3] : List Int).length 3), (.func (.func 102) #[] #[])]) (cs' := [(.int .i64 0), (.slice (some ⟨b7, 0, none⟩) ([1, 2, 3] : List Int).length 3), (.func (.func 102) #[] #[])]) sizeOf166 rfl rfl rfl rfl rfl rfl rfl rfl rfl ?_)
    refine WL.nil (tn (WP.seq (WP.seq (WP.region (V rfl (ov_fieldAddr underlying166 rfl rfl rfl sizeOf164 rfl rfl) (Vl 0 isAgg164 rfl (V rfl (ov_binOp (r := .bool false) rfl rfl rfl eqGuard_fn (fun _ => by kernel_rfl)) (WL.nil (tn (WP.cond_false rfl (WP.skip (tn (WP.seq ?_)))))))))))))
    refine WP.region_draws (by kernel_rfl) (by kernel_rfl) (fun _ s => s.drew) ?_
    refine qf rfl (ov_load_box (i := 5) isAgg9 rfl rfl rfl rfl) ?_
    refine qf rfl (ov_move rfl rfl) ?_
    obtain ⟨s1, e4, hm⟩ := bind_some hm
    refine qf rfl (ov_slice_string_from underlying9 rfl rfl rfl e4) ?_
    refine qf rfl (ov_fieldAddr underlying166 rfl rfl rfl sizeOf33 rfl rfl) ?_
    refine qf rfl (ov_load_box (i := 0) isAgg33 rfl rfl rfl rfl) ?_
    obtain ⟨r2, e5, hm⟩ := bind_some hm
    refine QL.quiet (Runs.free rfl) rfl rfl (oq_con (r := (.int .i64 r2)) call97 rfl rfl (fun w' s => ⟨_, (lexer_run_con s1 ([1, 2, 3] : List Int) (some ⟨b7, 0, none⟩) 3  w' H2 s.hold h2 hc3 hG r2 e5)⟩)) ?_
    refine qf rfl (ov_max rfl rfl rfl) ?_
    refine qf rfl (ov_assign rfl rfl) ?_
    refine QL.nil ?_
    refine tn (WP.seq (WP.region (Vl 5 isAgg9 rfl (Vm rfl (Vm rfl (Vm rfl (V rfl (ov_add rfl rfl rfl) ?_)))))))
    obtain ⟨s2, e6, hm⟩ := bind_some hm
    refine V rfl (ov_slice_string underlying9 rfl rfl rfl rfl e6) (Va rfl (WL.nil (tn (WP.seq (WP.seq (WP.region (V rfl (ov_fieldAddr underlying166 rfl rfl rfl sizeOf164 rfl rfl) (Vl 0 isAgg164 rfl (Vm rfl ?_)))))))))
    obtain ⟨r3, e7, hm⟩ := bind_some hm
    refine wo rfl (oq_conv (r := (.int .i64 r3)) call102 rfl (cap := []) rfl rfl (fun w' s => ⟨_, (lexer_Word_con s2  w' H2 s.hold hG r3 e7)⟩)) ?_
    refine Va rfl (WL.nil (tn (WP.seq (WP.region (Vm rfl (V rfl (ov_fieldAddr underlying166 rfl rfl rfl sizeOf3 rfl rfl) (Vl 0 isAgg3 rfl (Vm rfl (Vm rfl (V rfl (ov_build (r := (.agg #[(.int .i64 0), (mkS s2), (.int .i64 i1)])) rfl rfl (fun _ => by kernel_rfl)) (Vm rfl ?_)))))))))))
    refine WL.yield (i := 2) (vs := [(.agg #[(.int .i64 0), (mkS s2), (.int .i64 i1)]), (.int .i64 r3)]) (Runs.free rfl) rfl rfl rfl rfl rfl hr1 rfl rfl rfl ?_
    refine WP.seq (WP.region ?_)
    refine ws rfl (os_alloc (cs := [(.int .i64 0), (mkS []), (.int .i64 0)]) zeroValue91 rfl rfl (fun b15 => ?_))
    refine ws0 rfl (os_store (i := 0) (vs := [(.int .i64 0), (mkS s2), (.int .i64 i1)]) (cs' := [(.int .i64 0), (mkS s2), (.int .i64 i1)]) sizeOf91 rfl rfl rfl rfl rfl rfl rfl rfl rfl ?_)
    refine WL.nil (tn (WP.region (Va rfl (WL.nil (tn ?_)))))
    refine begin_of (i := 3) rfl ?_
    refine WP.block (WP.seq (WP.seq (WP.region (Vm rfl (V rfl (ov_neq rfl rfl rfl) (WL.nil (tn ?_)))))))
    refine WP.cond rfl (fun hc11 => ?_) (fun hc11 => ?_)
    ·
     replace hm := ite_t hc11 hm
     refine WP.seq ?_
     refine WP.region_anyF (S₀ := St w H [.blk b15 91 [(.int .i64 0), (mkS s2), (.int .i64 i1)], .blk b14 166 [(.int .i64 0), (.slice (some ⟨b7, 0, none⟩) ([1, 2, 3] : List Int).length 3), (.func (.func 102) #[] #[])], .row 91 (encToken).size l2.length (.slice ao2 l2.length cap2) xs1, .obj l1 (R1 .busy none), .obj D1 (.deferred (some [])), .blk b9 167 [(.int .i64 0), (.slice none 0 0), .nilFunc, (.int .i64 0), (.slice (some ⟨b7, 0, none⟩) ([1, 2, 3] : List Int).length 3), (.func (.func 102) #[] #[]), (.int .i64 1), (.slice (some ⟨b8, 0, none⟩) ([2] : List Int).length 1), (.func (.func 117) #[] #[]), (.int .i64 0), (.slice none 0 0), .nilFunc, (.int .i64 2), (.slice none 0 0), (.func (.func 118) #[] #[]), (.int .i64 0), (.slice none 0 0), .nilFunc], .blk b5 9 [(mkS p_text)], .blk b4 83 [(.slice ao2 l2.length cap2)]] H2) 6 rfl (by kernel_rfl) (by kernel_rfl) (fun w' s => (s.select [0, 1, 2, 3, 4, 5, 6, 7] (by decide) rfl)) (fun _ s => s.drew) ?_
     refine TQ 0 (by kernel_rfl) rfl (ov_fieldAddr underlying91 rfl rfl rfl sizeOf3 rfl rfl) (TQ 1 (by kernel_rfl) rfl (ov_load_box (i := 0) isAgg3 rfl rfl rfl rfl) (TQ 2 (by kernel_rfl) rfl (ov_move rfl rfl) ?_))
     refine AL.any (rs := [3]) (by kernel_rfl) (by decide) ?_
     refine ALs.cons0 (i := 3) rfl (Runs.free rfl) rfl ?_ ?_
     ·
      refine os_store (i := 10) (vs := [(.slice none 0 0)]) (cs' := [(.slice none 0 0)]) sizeOf83 rfl rfl rfl rfl rfl rfl rfl rfl rfl ?_
      refine ⟨fun w' s => (s.select [0, 1, 2, 3, 4, 5, 6, 7] (by decide) rfl), ?_⟩
      refine AL.any (rs := [4]) (by kernel_rfl) (by decide) ?_
      refine ALs.cons0 (i := 4) rfl (Runs.free rfl) rfl ?_ ?_
      ·
       refine os_store (i := 9) (vs := [(.int .i64 i1)]) (cs' := [(.int .i64 i1)]) sizeOf3 rfl rfl rfl rfl rfl rfl rfl rfl rfl ?_
       refine ⟨fun w' s => (s.select [0, 1, 2, 3, 4, 5, 6, 7] (by decide) rfl), ?_⟩
       refine AL.any (rs := [5]) (by kernel_rfl) (by decide) ?_
       refine ALs.cons0 (i := 5) rfl (Runs.free rfl) rfl ?_ ?_
       ·
        refine os_store (i := 8) (vs := [(.int .i64 r3)]) (cs' := [(.int .i64 r3)]) sizeOf34 rfl rfl rfl rfl rfl rfl rfl rfl rfl ?_
        refine ⟨fun w' s => (s.select [0, 1, 2, 3, 4, 5, 6, 7] (by decide) rfl), ?_⟩
        refine AL.done (by kernel_rfl) ?_
        refine tn (WP.ret (then_ret (block_ret ?_)))
        refine round_ret (i := 3) rfl ?_
        refine V rfl (ov_not rfl rfl) (Vm rfl (Vi rfl (Idle.no rfl rfl rfl rfl) (Vi rfl (Idle.no rfl rfl rfl rfl) (V rfl (ov_pick_true rfl (guard_eq rfl rfl) rfl) (WL.nil (tn (WP.cond_true rfl (WP.ret (then_ret (block_ret (then_ret (block_ret (then_ret ?_)))))))))))))
        refine retQ_ret (v := (.tuple #[])) results95 Res.nil rfl (fun w' s => ⟨St w H [.obj l1 (R1 .done (some .ret)), .obj D1 (.deferred (some [])), .blk b15 91 [(.int .i64 0), (mkS s2), (.int .i64 i1)], .blk b14 166 [(.int .i64 0), (.slice (some ⟨b7, 0, none⟩) ([1, 2, 3] : List Int).length 3), (.func (.func 102) #[] #[])], .row 91 (encToken).size l2.length (.slice ao2 l2.length cap2) xs1, .blk b9 167 [(.int .i64 0), (.slice none 0 0), .nilFunc, (.int .i64 0), (.slice (some ⟨b7, 0, none⟩) ([1, 2, 3] : List Int).length 3), (.func (.func 102) #[] #[]), (.int .i64 1), (.slice (some ⟨b8, 0, none⟩) ([2] : List Int).length 1), (.func (.func 117) #[] #[]), (.int .i64 0), (.slice none 0 0), .nilFunc, (.int .i64 2), (.slice none 0 0), (.func (.func 118) #[] #[]), (.int .i64 0), (.slice none 0 0), .nilFunc], .blk b5 9 [(mkS p_text)], .blk b4 83 [(.slice ao2 l2.length cap2)], .blk b3 34 [(.int .i64 r3)], .blk b2 3 [(.int .i64 i1)], .blk b1 83 [(.slice none 0 0)]] H2, ?_, (s.select [3, 4, 0, 1, 2, 5, 6, 7, 8, 9, 10] (by decide) rfl)⟩)
        refine after_ret ?_
        refine block_ret (then_ret ?_)
        obtain rfl := Option.some.inj hm
        refine retQ_retM (i := 0) rfl results37 (Res.cell rfl (box_load (i := 8) isAgg83 rfl) (Res.cell rfl (box_load (i := 7) isAgg3 rfl) (Res.cell rfl (box_load (i := 6) isAgg34 rfl) Res.nil))) rfl (fun w' s => ⟨s.below, ?_⟩)
        exact ⟨none, 0, rfl, SL.nil _ _ _, Nat.le_refl _⟩
       exact ALs.nil
      exact ALs.nil
     exact ALs.nil
    replace hm := ite_f hc11 hm
    refine WP.skip (tn (WP.region (Vl 7 isAgg83 rfl (V rfl (ov_load_whole (i := 0) isAgg91 sizeOf91 rfl rfl rfl rfl) ?_))))
    have rl7 : RL H2 encToken ([(Token.mk 0 s2 i1)] : List Token) [(.int .i64 0), (mkS s2), (.int .i64 i1)] := RL.cons (cs := [(.int .i64 0), (mkS s2), (.int .i64 i1)]) (xs := []) rfl (RL.nil _ _)
    refine ws rfl (os_buildSlice (cs := [(.int .i64 0), (mkS s2), (.int .i64 i1)]) (E := 91) (sz := 3) rfl rfl (fun _ => by kernel_rfl) rfl (by decide) (fun b16 => ?_))
    obtain ⟨l4, e8, hm⟩ := bind_some hm
    refine ws rfl (os_app (i := 3) (j := 0) (En := encToken) (xs := xs1) (ys := [(.int .i64 0), (mkS s2), (.int .i64 i1)]) underlying83 (by kernel_rfl : (prog.info? 91).map (fun i => (i.zero, i.size, i.bytes)) = some (some (.agg #[(.int .i64 0), (mkS []), (.int .i64 0)]), (encToken).size, 32)) rfl (by decide) rfl rfl rfl rfl rfl rfl rl4 rl7 e8 (fun ao4 cap4 rl8 => ?_))
    refine ws0 rfl (os_store (i := 8) (vs := [(.slice ao4 (l2 ++ ([(Token.mk 0 s2 i1)] : List Token)).length cap4)]) (cs' := [(.slice ao4 (l2 ++ ([(Token.mk 0 s2 i1)] : List Token)).length cap4)]) sizeOf83 rfl rfl rfl rfl rfl rfl rfl rfl rfl ?_)
    refine WL.nil (bn ?_)
    refine round_normal (i := 4) rfl ?_
    refine V rfl (ov_not rfl rfl) (Vm rfl ?_)
    refine wy rfl rfl (ov_move rfl rfl) ?_
    refine wy rfl rfl (ov_neq rfl rfl rfl) ?_
    refine V rfl (ov_pick_false rfl (guard_eq rfl rfl) rfl) (WL.nil (tn ?_))
    refine WP.cond rfl (fun hc12 => ?_) (fun hc12 => ?_)
    ·
     replace hm := ite_t hc12 hm
     refine WP.ret (then_ret (block_ret (then_ret (block_ret (then_ret ?_)))))
     refine retQ_ret (v := (.tuple #[])) results95 Res.nil rfl (fun w' s => ⟨St w H [.obj l1 (R1 .ready none), .obj D1 (.deferred (some [])), .row 91 (encToken).size ([(Token.mk 0 s2 i1)] : List Token).length (.slice (some ⟨b16, 0, none⟩) ([(Token.mk 0 s2 i1)] : List Token).length 1) [(.int .i64 0), (mkS s2), (.int .i64 i1)], .blk b15 91 [(.int .i64 0), (mkS s2), (.int .i64 i1)], .blk b14 166 [(.int .i64 0), (.slice (some ⟨b7, 0, none⟩) ([1, 2, 3] : List Int).length 3), (.func (.func 102) #[] #[])], .row 91 (encToken).size (l2 ++ ([(Token.mk 0 s2 i1)] : List Token)).length (.slice ao4 (l2 ++ ([(Token.mk 0 s2 i1)] : List Token)).length cap4) (xs1 ++ [(.int .i64 0), (mkS s2), (.int .i64 i1)]), .blk b9 167 [(.int .i64 0), (.slice none 0 0), .nilFunc, (.int .i64 0), (.slice (some ⟨b7, 0, none⟩) ([1, 2, 3] : List Int).length 3), (.func (.func 102) #[] #[]), (.int .i64 1), (.slice (some ⟨b8, 0, none⟩) ([2] : List Int).length 1), (.func (.func 117) #[] #[]), (.int .i64 0), (.slice none 0 0), .nilFunc, (.int .i64 2), (.slice none 0 0), (.func (.func 118) #[] #[]), (.int .i64 0), (.slice none 0 0), .nilFunc], .blk b5 9 [(mkS p_text)], .blk b4 83 [(.slice ao4 (l2 ++ ([(Token.mk 0 s2 i1)] : List Token)).length cap4)], .blk b3 34 [(.int .i64 0)], .blk b2 3 [(.int .i64 0)], .blk b1 83 [(.slice none 0 0)]] H2, ?_, (s.select [4, 5, 0, 1, 2, 3, 6, 7, 8, 9, 10, 11] (by decide) rfl)⟩)
     refine after_normal ?_
     refine bn (tn (WP.seq (WP.region (Vl 7 isAgg83 rfl ?_))))
     refine ws0 rfl (os_store (i := 10) (vs := [(.slice ao4 (l2 ++ ([(Token.mk 0 s2 i1)] : List Token)).length cap4)]) (cs' := [(.slice ao4 (l2 ++ ([(Token.mk 0 s2 i1)] : List Token)).length cap4)]) sizeOf83 rfl rfl rfl rfl rfl rfl rfl rfl rfl ?_)
     refine ws0 rfl (os_store (i := 9) (vs := [(.int .i64 0)]) (cs' := [(.int .i64 0)]) sizeOf3 rfl rfl rfl rfl rfl rfl rfl rfl rfl ?_)
     refine ws0 rfl (os_store (i := 8) (vs := [(.int .i64 0)]) (cs' := [(.int .i64 0)]) sizeOf34 rfl rfl rfl rfl rfl rfl rfl rfl rfl ?_)
     refine WL.nil (tn (WP.ret ?_))
     obtain rfl := Option.some.inj hm
     refine retQ_retM (i := 0) rfl results37 (Res.cell rfl (box_load (i := 9) isAgg83 rfl) (Res.cell rfl (box_load (i := 8) isAgg3 rfl) (Res.cell rfl (box_load (i := 7) isAgg34 rfl) Res.nil))) rfl (fun w' s => ⟨s.below, ?_⟩)
     obtain ⟨h5, hc13⟩ := s.ret_row (i := 3) rfl rl8
     exact ⟨ao4, cap4, rfl, h5, hc13⟩
    replace hm := ite_f hc12 hm
    refine WP.skip (tn (WP.region (Vm rfl (Vm rfl (V rfl (ov_add rfl rfl rfl) (Va rfl (WL.nil (bn (tn ?_)))))))))
    exact ⟨(IntKind.wrap .i64 (i1 + (if r2 > 1 then r2 else 1))), (l2 ++ ([(Token.mk 0 s2 i1)] : List Token)), ao4, cap4, (xs1 ++ [(.int .i64 0), (mkS s2), (.int .i64 i1)]), rl8, (Sub.all rfl), fun w' s => (s.select [3, 4, 5, 6, 7, 8, 9, 10, 11] (by decide) rfl), hm⟩
   replace hm := ite_f hc10 hm
   rcases Bool.eq_false_or_eq_true (r1 == 2) with hc14 | hc14
   ·
    replace hm := ite_t hc14 hm
    refine V rfl (ov_indexAddr_at (j := 2) underlying167 sizeOf166 rfl rfl rfl (eq_of_beq hc14) rfl) (V rfl (ov_load_boxes (i := 3) (vs := [(.int .i64 1), (.slice (some ⟨b8, 0, none⟩) ([2] : List Int).length 1), (.func (.func 117) #[] #[])]) isAgg166 sizeOf166 rfl rfl rfl rfl (part_of rfl)) ?_)
    refine ws rfl (os_alloc (cs := [(.int .i64 0), (.slice none 0 0), .nilFunc]) zeroValue166 rfl rfl (fun b17 => ?_))
    refine ws0 rfl (os_store (i := 0) (vs := [(.int .i64 1), (.slice (some ⟨b8, 0, none⟩) ([2] : List Int).length 1), (.func (.func 117) #[] #[])]) (cs' := [(.int .i64 1), (.slice (some ⟨b8, 0, none⟩) ([2] : List Int).length 1), (.func (.func 117) #[] #[])]) sizeOf166 rfl rfl rfl rfl rfl rfl rfl rfl rfl ?_)
    refine WL.nil (tn (WP.seq (WP.seq (WP.region (V rfl (ov_fieldAddr underlying166 rfl rfl rfl sizeOf164 rfl rfl) (Vl 0 isAgg164 rfl (V rfl (ov_binOp (r := .bool false) rfl rfl rfl eqGuard_fn (fun _ => by kernel_rfl)) (WL.nil (tn (WP.cond_false rfl (WP.skip (tn (WP.seq ?_)))))))))))))
    refine WP.region_draws (by kernel_rfl) (by kernel_rfl) (fun _ s => s.drew) ?_
    refine qf rfl (ov_load_box (i := 5) isAgg9 rfl rfl rfl rfl) ?_
    refine qf rfl (ov_move rfl rfl) ?_
    obtain ⟨s3, e9, hm⟩ := bind_some hm
    refine qf rfl (ov_slice_string_from underlying9 rfl rfl rfl e9) ?_
    refine qf rfl (ov_fieldAddr underlying166 rfl rfl rfl sizeOf33 rfl rfl) ?_
    refine qf rfl (ov_load_box (i := 0) isAgg33 rfl rfl rfl rfl) ?_
    obtain ⟨r4, e10, hm⟩ := bind_some hm
    refine QL.quiet (Runs.free rfl) rfl rfl (oq_con (r := (.int .i64 r4)) call97 rfl rfl (fun w' s => ⟨_, (lexer_run_con s3 ([2] : List Int) (some ⟨b8, 0, none⟩) 1  w' H2 s.hold h3 hc4 hG r4 e10)⟩)) ?_
    refine qf rfl (ov_max rfl rfl rfl) ?_
    refine qf rfl (ov_assign rfl rfl) ?_
    refine QL.nil ?_
    refine tn (WP.seq (WP.region (Vl 5 isAgg9 rfl (Vm rfl (Vm rfl (Vm rfl (V rfl (ov_add rfl rfl rfl) ?_)))))))
    obtain ⟨s4, e11, hm⟩ := bind_some hm
    refine V rfl (ov_slice_string underlying9 rfl rfl rfl rfl e11) (Va rfl (WL.nil (tn (WP.seq (WP.seq (WP.region (V rfl (ov_fieldAddr underlying166 rfl rfl rfl sizeOf164 rfl rfl) (Vl 0 isAgg164 rfl (Vm rfl ?_)))))))))
    obtain ⟨r5, e12, hm⟩ := bind_some hm
    refine wo rfl (oq_conv (r := (.int .i64 r5)) call117 rfl (cap := []) rfl rfl (fun w' s => ⟨_, (lexer_Number_con s4  w' H2 s.hold hG r5 e12)⟩)) ?_
    refine Va rfl (WL.nil (tn (WP.seq (WP.region (Vm rfl (V rfl (ov_fieldAddr underlying166 rfl rfl rfl sizeOf3 rfl rfl) (Vl 0 isAgg3 rfl (Vm rfl (Vm rfl (V rfl (ov_build (r := (.agg #[(.int .i64 1), (mkS s4), (.int .i64 i1)])) rfl rfl (fun _ => by kernel_rfl)) (Vm rfl ?_)))))))))))
    refine WL.yield (i := 2) (vs := [(.agg #[(.int .i64 1), (mkS s4), (.int .i64 i1)]), (.int .i64 r5)]) (Runs.free rfl) rfl rfl rfl rfl rfl hr1 rfl rfl rfl ?_
    refine WP.seq (WP.region ?_)
    refine ws rfl (os_alloc (cs := [(.int .i64 0), (mkS []), (.int .i64 0)]) zeroValue91 rfl rfl (fun b18 => ?_))
    refine ws0 rfl (os_store (i := 0) (vs := [(.int .i64 1), (mkS s4), (.int .i64 i1)]) (cs' := [(.int .i64 1), (mkS s4), (.int .i64 i1)]) sizeOf91 rfl rfl rfl rfl rfl rfl rfl rfl rfl ?_)
    refine WL.nil (tn (WP.region (Va rfl (WL.nil (tn ?_)))))
    refine begin_of (i := 3) rfl ?_
    refine WP.block (WP.seq (WP.seq (WP.region (Vm rfl (V rfl (ov_neq rfl rfl rfl) (WL.nil (tn ?_)))))))
    refine WP.cond rfl (fun hc15 => ?_) (fun hc15 => ?_)
    ·
     replace hm := ite_t hc15 hm
     refine WP.seq ?_
     refine WP.region_anyF (S₀ := St w H [.blk b18 91 [(.int .i64 1), (mkS s4), (.int .i64 i1)], .blk b17 166 [(.int .i64 1), (.slice (some ⟨b8, 0, none⟩) ([2] : List Int).length 1), (.func (.func 117) #[] #[])], .row 91 (encToken).size l2.length (.slice ao2 l2.length cap2) xs1, .obj l1 (R1 .busy none), .obj D1 (.deferred (some [])), .blk b9 167 [(.int .i64 0), (.slice none 0 0), .nilFunc, (.int .i64 0), (.slice (some ⟨b7, 0, none⟩) ([1, 2, 3] : List Int).length 3), (.func (.func 102) #[] #[]), (.int .i64 1), (.slice (some ⟨b8, 0, none⟩) ([2] : List Int).length 1), (.func (.func 117) #[] #[]), (.int .i64 0), (.slice none 0 0), .nilFunc, (.int .i64 2), (.slice none 0 0), (.func (.func 118) #[] #[]), (.int .i64 0), (.slice none 0 0), .nilFunc], .blk b5 9 [(mkS p_text)], .blk b4 83 [(.slice ao2 l2.length cap2)]] H2) 6 rfl (by kernel_rfl) (by kernel_rfl) (fun w' s => (s.select [0, 1, 2, 3, 4, 5, 6, 7] (by decide) rfl)) (fun _ s => s.drew) ?_
     refine TQ 0 (by kernel_rfl) rfl (ov_fieldAddr underlying91 rfl rfl rfl sizeOf3 rfl rfl) (TQ 1 (by kernel_rfl) rfl (ov_load_box (i := 0) isAgg3 rfl rfl rfl rfl) (TQ 2 (by kernel_rfl) rfl (ov_move rfl rfl) ?_))
     refine AL.any (rs := [3]) (by kernel_rfl) (by decide) ?_
     refine ALs.cons0 (i := 3) rfl (Runs.free rfl) rfl ?_ ?_
     ·
      refine os_store (i := 10) (vs := [(.slice none 0 0)]) (cs' := [(.slice none 0 0)]) sizeOf83 rfl rfl rfl rfl rfl rfl rfl rfl rfl ?_
      refine ⟨fun w' s => (s.select [0, 1, 2, 3, 4, 5, 6, 7] (by decide) rfl), ?_⟩
      refine AL.any (rs := [4]) (by kernel_rfl) (by decide) ?_
      refine ALs.cons0 (i := 4) rfl (Runs.free rfl) rfl ?_ ?_
      ·
       refine os_store (i := 9) (vs := [(.int .i64 i1)]) (cs' := [(.int .i64 i1)]) sizeOf3 rfl rfl rfl rfl rfl rfl rfl rfl rfl ?_
       refine ⟨fun w' s => (s.select [0, 1, 2, 3, 4, 5, 6, 7] (by decide) rfl), ?_⟩
       refine AL.any (rs := [5]) (by kernel_rfl) (by decide) ?_
       refine ALs.cons0 (i := 5) rfl (Runs.free rfl) rfl ?_ ?_
       ·
        refine os_store (i := 8) (vs := [(.int .i64 r5)]) (cs' := [(.int .i64 r5)]) sizeOf34 rfl rfl rfl rfl rfl rfl rfl rfl rfl ?_
        refine ⟨fun w' s => (s.select [0, 1, 2, 3, 4, 5, 6, 7] (by decide) rfl), ?_⟩
        refine AL.done (by kernel_rfl) ?_
        refine tn (WP.ret (then_ret (block_ret ?_)))
        refine round_ret (i := 3) rfl ?_
        refine V rfl (ov_not rfl rfl) (Vm rfl (Vi rfl (Idle.no rfl rfl rfl rfl) (Vi rfl (Idle.no rfl rfl rfl rfl) (V rfl (ov_pick_true rfl (guard_eq rfl rfl) rfl) (WL.nil (tn (WP.cond_true rfl (WP.ret (then_ret (block_ret (then_ret (block_ret (then_ret ?_)))))))))))))
        refine retQ_ret (v := (.tuple #[])) results95 Res.nil rfl (fun w' s => ⟨St w H [.obj l1 (R1 .done (some .ret)), .obj D1 (.deferred (some [])), .blk b18 91 [(.int .i64 1), (mkS s4), (.int .i64 i1)], .blk b17 166 [(.int .i64 1), (.slice (some ⟨b8, 0, none⟩) ([2] : List Int).length 1), (.func (.func 117) #[] #[])], .row 91 (encToken).size l2.length (.slice ao2 l2.length cap2) xs1, .blk b9 167 [(.int .i64 0), (.slice none 0 0), .nilFunc, (.int .i64 0), (.slice (some ⟨b7, 0, none⟩) ([1, 2, 3] : List Int).length 3), (.func (.func 102) #[] #[]), (.int .i64 1), (.slice (some ⟨b8, 0, none⟩) ([2] : List Int).length 1), (.func (.func 117) #[] #[]), (.int .i64 0), (.slice none 0 0), .nilFunc, (.int .i64 2), (.slice none 0 0), (.func (.func 118) #[] #[]), (.int .i64 0), (.slice none 0 0), .nilFunc], .blk b5 9 [(mkS p_text)], .blk b4 83 [(.slice ao2 l2.length cap2)], .blk b3 34 [(.int .i64 r5)], .blk b2 3 [(.int .i64 i1)], .blk b1 83 [(.slice none 0 0)]] H2, ?_, (s.select [3, 4, 0, 1, 2, 5, 6, 7, 8, 9, 10] (by decide) rfl)⟩)
        refine after_ret ?_
        refine block_ret (then_ret ?_)
        obtain rfl := Option.some.inj hm
        refine retQ_retM (i := 0) rfl results37 (Res.cell rfl (box_load (i := 8) isAgg83 rfl) (Res.cell rfl (box_load (i := 7) isAgg3 rfl) (Res.cell rfl (box_load (i := 6) isAgg34 rfl) Res.nil))) rfl (fun w' s => ⟨s.below, ?_⟩)
        exact ⟨none, 0, rfl, SL.nil _ _ _, Nat.le_refl _⟩
       exact ALs.nil
      exact ALs.nil
     exact ALs.nil
    replace hm := ite_f hc15 hm
    refine WP.skip (tn (WP.region (Vl 7 isAgg83 rfl (V rfl (ov_load_whole (i := 0) isAgg91 sizeOf91 rfl rfl rfl rfl) ?_))))
    have rl9 : RL H2 encToken ([(Token.mk 1 s4 i1)] : List Token) [(.int .i64 1), (mkS s4), (.int .i64 i1)] := RL.cons (cs := [(.int .i64 1), (mkS s4), (.int .i64 i1)]) (xs := []) rfl (RL.nil _ _)
    refine ws rfl (os_buildSlice (cs := [(.int .i64 1), (mkS s4), (.int .i64 i1)]) (E := 91) (sz := 3) rfl rfl (fun _ => by kernel_rfl) rfl (by decide) (fun b19 => ?_))
    obtain ⟨l5, e13, hm⟩ := bind_some hm
    refine ws rfl (os_app (i := 3) (j := 0) (En := encToken) (xs := xs1) (ys := [(.int .i64 1), (mkS s4), (.int .i64 i1)]) underlying83 (by kernel_rfl : (prog.info? 91).map (fun i => (i.zero, i.size, i.bytes)) = some (some (.agg #[(.int .i64 0), (mkS []), (.int .i64 0)]), (encToken).size, 32)) rfl (by decide) rfl rfl rfl rfl rfl rfl rl4 rl9 e13 (fun ao5 cap5 rl10 => ?_))
    refine ws0 rfl (os_store (i := 8) (vs := [(.slice ao5 (l2 ++ ([(Token.mk 1 s4 i1)] : List Token)).length cap5)]) (cs' := [(.slice ao5 (l2 ++ ([(Token.mk 1 s4 i1)] : List Token)).length cap5)]) sizeOf83 rfl rfl rfl rfl rfl rfl rfl rfl rfl ?_)
    refine WL.nil (bn ?_)
    refine round_normal (i := 4) rfl ?_
    refine V rfl (ov_not rfl rfl) (Vm rfl ?_)
    refine wy rfl rfl (ov_move rfl rfl) ?_
    refine wy rfl rfl (ov_neq rfl rfl rfl) ?_
    refine V rfl (ov_pick_false rfl (guard_eq rfl rfl) rfl) (WL.nil (tn ?_))
    refine WP.cond rfl (fun hc16 => ?_) (fun hc16 => ?_)
    ·
     replace hm := ite_t hc16 hm
     refine WP.ret (then_ret (block_ret (then_ret (block_ret (then_ret ?_)))))
     refine retQ_ret (v := (.tuple #[])) results95 Res.nil rfl (fun w' s => ⟨St w H [.obj l1 (R1 .ready none), .obj D1 (.deferred (some [])), .row 91 (encToken).size ([(Token.mk 1 s4 i1)] : List Token).length (.slice (some ⟨b19, 0, none⟩) ([(Token.mk 1 s4 i1)] : List Token).length 1) [(.int .i64 1), (mkS s4), (.int .i64 i1)], .blk b18 91 [(.int .i64 1), (mkS s4), (.int .i64 i1)], .blk b17 166 [(.int .i64 1), (.slice (some ⟨b8, 0, none⟩) ([2] : List Int).length 1), (.func (.func 117) #[] #[])], .row 91 (encToken).size (l2 ++ ([(Token.mk 1 s4 i1)] : List Token)).length (.slice ao5 (l2 ++ ([(Token.mk 1 s4 i1)] : List Token)).length cap5) (xs1 ++ [(.int .i64 1), (mkS s4), (.int .i64 i1)]), .blk b9 167 [(.int .i64 0), (.slice none 0 0), .nilFunc, (.int .i64 0), (.slice (some ⟨b7, 0, none⟩) ([1, 2, 3] : List Int).length 3), (.func (.func 102) #[] #[]), (.int .i64 1), (.slice (some ⟨b8, 0, none⟩) ([2] : List Int).length 1), (.func (.func 117) #[] #[]), (.int .i64 0), (.slice none 0 0), .nilFunc, (.int .i64 2), (.slice none 0 0), (.func (.func 118) #[] #[]), (.int .i64 0), (.slice none 0 0), .nilFunc], .blk b5 9 [(mkS p_text)], .blk b4 83 [(.slice ao5 (l2 ++ ([(Token.mk 1 s4 i1)] : List Token)).length cap5)], .blk b3 34 [(.int .i64 0)], .blk b2 3 [(.int .i64 0)], .blk b1 83 [(.slice none 0 0)]] H2, ?_, (s.select [4, 5, 0, 1, 2, 3, 6, 7, 8, 9, 10, 11] (by decide) rfl)⟩)
     refine after_normal ?_
     refine bn (tn (WP.seq (WP.region (Vl 7 isAgg83 rfl ?_))))
     refine ws0 rfl (os_store (i := 10) (vs := [(.slice ao5 (l2 ++ ([(Token.mk 1 s4 i1)] : List Token)).length cap5)]) (cs' := [(.slice ao5 (l2 ++ ([(Token.mk 1 s4 i1)] : List Token)).length cap5)]) sizeOf83 rfl rfl rfl rfl rfl rfl rfl rfl rfl ?_)
     refine ws0 rfl (os_store (i := 9) (vs := [(.int .i64 0)]) (cs' := [(.int .i64 0)]) sizeOf3 rfl rfl rfl rfl rfl rfl rfl rfl rfl ?_)
     refine ws0 rfl (os_store (i := 8) (vs := [(.int .i64 0)]) (cs' := [(.int .i64 0)]) sizeOf34 rfl rfl rfl rfl rfl rfl rfl rfl rfl ?_)
     refine WL.nil (tn (WP.ret ?_))
     obtain rfl := Option.some.inj hm
     refine retQ_retM (i := 0) rfl results37 (Res.cell rfl (box_load (i := 9) isAgg83 rfl) (Res.cell rfl (box_load (i := 8) isAgg3 rfl) (Res.cell rfl (box_load (i := 7) isAgg34 rfl) Res.nil))) rfl (fun w' s => ⟨s.below, ?_⟩)
     obtain ⟨h6, hc17⟩ := s.ret_row (i := 3) rfl rl10
     exact ⟨ao5, cap5, rfl, h6, hc17⟩
    replace hm := ite_f hc16 hm
    refine WP.skip (tn (WP.region (Vm rfl (Vm rfl (V rfl (ov_add rfl rfl rfl) (Va rfl (WL.nil (bn (tn ?_)))))))))
    exact ⟨(IntKind.wrap .i64 (i1 + (if r4 > 1 then r4 else 1))), (l2 ++ ([(Token.mk 1 s4 i1)] : List Token)), ao5, cap5, (xs1 ++ [(.int .i64 1), (mkS s4), (.int .i64 i1)]), rl10, (Sub.all rfl), fun w' s => (s.select [3, 4, 5, 6, 7, 8, 9, 10, 11] (by decide) rfl), hm⟩
   replace hm := ite_f hc14 hm
   rcases Bool.eq_false_or_eq_true (r1 == 3) with hc18 | hc18
   ·
    replace hm := ite_t hc18 hm
    refine V rfl (ov_indexAddr_at (j := 3) underlying167 sizeOf166 rfl rfl rfl (eq_of_beq hc18) rfl) (V rfl (ov_load_boxes (i := 3) (vs := [(.int .i64 0), (.slice none 0 0), .nilFunc]) isAgg166 sizeOf166 rfl rfl rfl rfl (part_of rfl)) ?_)
    refine ws rfl (os_alloc (cs := [(.int .i64 0), (.slice none 0 0), .nilFunc]) zeroValue166 rfl rfl (fun b20 => ?_))
    refine ws0 rfl (os_store (i := 0) (vs := [(.int .i64 0), (.slice none 0 0), .nilFunc]) (cs' := [(.int .i64 0), (.slice none 0 0), .nilFunc]) sizeOf166 rfl rfl rfl rfl rfl rfl rfl rfl rfl ?_)
    refine WL.nil (tn (WP.seq (WP.seq (WP.region (V rfl (ov_fieldAddr underlying166 rfl rfl rfl sizeOf164 rfl rfl) (Vl 0 isAgg164 rfl (V rfl (ov_binOp (r := .bool true) rfl rfl rfl eqGuard_nofn (fun _ => by kernel_rfl)) (WL.nil (tn (WP.cond_true rfl (WP.seq (WP.region (Vm rfl ?_)))))))))))))
    refine Vm rfl (V rfl (ov_build (r := (.agg #[(.int .i64 0), (mkS []), (.int .i64 i1)])) rfl rfl (fun _ => by kernel_rfl)) ?_)
    refine WL.yield (i := 2) (vs := [(.agg #[(.int .i64 0), (mkS []), (.int .i64 i1)]), (.int .i64 4)]) (Runs.free rfl) rfl rfl rfl rfl rfl hr1 rfl rfl rfl ?_
    refine WP.seq (WP.region ?_)
    refine ws rfl (os_alloc (cs := [(.int .i64 0), (mkS []), (.int .i64 0)]) zeroValue91 rfl rfl (fun b21 => ?_))
    refine ws0 rfl (os_store (i := 0) (vs := [(.int .i64 0), (mkS []), (.int .i64 i1)]) (cs' := [(.int .i64 0), (mkS []), (.int .i64 i1)]) sizeOf91 rfl rfl rfl rfl rfl rfl rfl rfl rfl ?_)
    refine WL.nil (tn (WP.region (Va rfl (WL.nil (tn ?_)))))
    refine begin_of (i := 3) rfl ?_
    refine WP.block (WP.seq (WP.seq (WP.region (Vm rfl (V rfl (ov_neq rfl rfl rfl) (WL.nil (tn ?_)))))))
    refine WP.cond rfl (fun hc19 => ?_) (fun hc19 => ?_)
    ·
     replace hm := ite_t hc19 hm
     refine WP.seq ?_
     refine WP.region_anyF (S₀ := St w H [.blk b21 91 [(.int .i64 0), (mkS []), (.int .i64 i1)], .blk b20 166 [(.int .i64 0), (.slice none 0 0), .nilFunc], .row 91 (encToken).size l2.length (.slice ao2 l2.length cap2) xs1, .obj l1 (R1 .busy none), .obj D1 (.deferred (some [])), .blk b9 167 [(.int .i64 0), (.slice none 0 0), .nilFunc, (.int .i64 0), (.slice (some ⟨b7, 0, none⟩) ([1, 2, 3] : List Int).length 3), (.func (.func 102) #[] #[]), (.int .i64 1), (.slice (some ⟨b8, 0, none⟩) ([2] : List Int).length 1), (.func (.func 117) #[] #[]), (.int .i64 0), (.slice none 0 0), .nilFunc, (.int .i64 2), (.slice none 0 0), (.func (.func 118) #[] #[]), (.int .i64 0), (.slice none 0 0), .nilFunc], .blk b5 9 [(mkS p_text)], .blk b4 83 [(.slice ao2 l2.length cap2)]] H2) 6 rfl (by kernel_rfl) (by kernel_rfl) (fun w' s => (s.select [0, 1, 2, 3, 4, 5, 6, 7] (by decide) rfl)) (fun _ s => s.drew) ?_
     refine TQ 0 (by kernel_rfl) rfl (ov_fieldAddr underlying91 rfl rfl rfl sizeOf3 rfl rfl) (TQ 1 (by kernel_rfl) rfl (ov_load_box (i := 0) isAgg3 rfl rfl rfl rfl) (TQ 2 (by kernel_rfl) rfl (ov_move rfl rfl) ?_))
     refine AL.any (rs := [3]) (by kernel_rfl) (by decide) ?_
     refine ALs.cons0 (i := 3) rfl (Runs.free rfl) rfl ?_ ?_
     ·
      refine os_store (i := 10) (vs := [(.slice none 0 0)]) (cs' := [(.slice none 0 0)]) sizeOf83 rfl rfl rfl rfl rfl rfl rfl rfl rfl ?_
      refine ⟨fun w' s => (s.select [0, 1, 2, 3, 4, 5, 6, 7] (by decide) rfl), ?_⟩
      refine AL.any (rs := [4]) (by kernel_rfl) (by decide) ?_
      refine ALs.cons0 (i := 4) rfl (Runs.free rfl) rfl ?_ ?_
      ·
       refine os_store (i := 9) (vs := [(.int .i64 i1)]) (cs' := [(.int .i64 i1)]) sizeOf3 rfl rfl rfl rfl rfl rfl rfl rfl rfl ?_
       refine ⟨fun w' s => (s.select [0, 1, 2, 3, 4, 5, 6, 7] (by decide) rfl), ?_⟩
       refine AL.any (rs := [5]) (by kernel_rfl) (by decide) ?_
       refine ALs.cons0 (i := 5) rfl (Runs.free rfl) rfl ?_ ?_
       ·
        refine os_store (i := 8) (vs := [(.int .i64 4)]) (cs' := [(.int .i64 4)]) sizeOf34 rfl rfl rfl rfl rfl rfl rfl rfl rfl ?_
        refine ⟨fun w' s => (s.select [0, 1, 2, 3, 4, 5, 6, 7] (by decide) rfl), ?_⟩
        refine AL.done (by kernel_rfl) ?_
        refine tn (WP.ret (then_ret (block_ret ?_)))
        refine round_ret (i := 3) rfl ?_
        refine WL.nil (tn (WP.ret (then_ret (block_ret (then_ret (block_ret (then_ret ?_)))))))
        refine retQ_ret (v := (.tuple #[])) results95 Res.nil rfl (fun w' s => ⟨St w H [.obj l1 (R1 .done (some .ret)), .obj D1 (.deferred (some [])), .blk b21 91 [(.int .i64 0), (mkS []), (.int .i64 i1)], .blk b20 166 [(.int .i64 0), (.slice none 0 0), .nilFunc], .row 91 (encToken).size l2.length (.slice ao2 l2.length cap2) xs1, .blk b9 167 [(.int .i64 0), (.slice none 0 0), .nilFunc, (.int .i64 0), (.slice (some ⟨b7, 0, none⟩) ([1, 2, 3] : List Int).length 3), (.func (.func 102) #[] #[]), (.int .i64 1), (.slice (some ⟨b8, 0, none⟩) ([2] : List Int).length 1), (.func (.func 117) #[] #[]), (.int .i64 0), (.slice none 0 0), .nilFunc, (.int .i64 2), (.slice none 0 0), (.func (.func 118) #[] #[]), (.int .i64 0), (.slice none 0 0), .nilFunc], .blk b5 9 [(mkS p_text)], .blk b4 83 [(.slice ao2 l2.length cap2)], .blk b3 34 [(.int .i64 4)], .blk b2 3 [(.int .i64 i1)], .blk b1 83 [(.slice none 0 0)]] H2, ?_, (s.select [3, 4, 0, 1, 2, 5, 6, 7, 8, 9, 10] (by decide) rfl)⟩)
        refine after_ret ?_
        refine block_ret (then_ret ?_)
        obtain rfl := Option.some.inj hm
        refine retQ_retM (i := 0) rfl results37 (Res.cell rfl (box_load (i := 8) isAgg83 rfl) (Res.cell rfl (box_load (i := 7) isAgg3 rfl) (Res.cell rfl (box_load (i := 6) isAgg34 rfl) Res.nil))) rfl (fun w' s => ⟨s.below, ?_⟩)
        exact ⟨none, 0, rfl, SL.nil _ _ _, Nat.le_refl _⟩
       exact ALs.nil
      exact ALs.nil
     exact ALs.nil
    replace hm := ite_f hc19 hm
    refine WP.skip (tn (WP.region (Vl 7 isAgg83 rfl (V rfl (ov_load_whole (i := 0) isAgg91 sizeOf91 rfl rfl rfl rfl) ?_))))
    have rl11 : RL H2 encToken ([(Token.mk 0 [] i1)] : List Token) [(.int .i64 0), (mkS []), (.int .i64 i1)] := RL.cons (cs := [(.int .i64 0), (mkS []), (.int .i64 i1)]) (xs := []) rfl (RL.nil _ _)
    refine ws rfl (os_buildSlice (cs := [(.int .i64 0), (mkS []), (.int .i64 i1)]) (E := 91) (sz := 3) rfl rfl (fun _ => by kernel_rfl) rfl (by decide) (fun b22 => ?_))
    obtain ⟨l6, e14, hm⟩ := bind_some hm
    refine ws rfl (os_app (i := 3) (j := 0) (En := encToken) (xs := xs1) (ys := [(.int .i64 0), (mkS []), (.int .i64 i1)]) underlying83 (by kernel_rfl : (prog.info? 91).map (fun i => (i.zero, i.size, i.bytes)) = some (some (.agg #[(.int .i64 0), (mkS []), (.int .i64 0)]), (encToken).size, 32)) rfl (by decide) rfl rfl rfl rfl rfl rfl rl4 rl11 e14 (fun ao6 cap6 rl12 => ?_))
    refine ws0 rfl (os_store (i := 8) (vs := [(.slice ao6 (l2 ++ ([(Token.mk 0 [] i1)] : List Token)).length cap6)]) (cs' := [(.slice ao6 (l2 ++ ([(Token.mk 0 [] i1)] : List Token)).length cap6)]) sizeOf83 rfl rfl rfl rfl rfl rfl rfl rfl rfl ?_)
    refine WL.nil (bn ?_)
    refine round_normal (i := 4) rfl ?_
    refine WL.nil (tn (WP.ret (then_ret (block_ret (then_ret (block_ret (then_ret ?_)))))))
    refine retQ_ret (v := (.tuple #[])) results95 Res.nil rfl (fun w' s => ⟨St w H [.obj l1 (R1 .ready none), .obj D1 (.deferred (some [])), .row 91 (encToken).size ([(Token.mk 0 [] i1)] : List Token).length (.slice (some ⟨b22, 0, none⟩) ([(Token.mk 0 [] i1)] : List Token).length 1) [(.int .i64 0), (mkS []), (.int .i64 i1)], .blk b21 91 [(.int .i64 0), (mkS []), (.int .i64 i1)], .blk b20 166 [(.int .i64 0), (.slice none 0 0), .nilFunc], .row 91 (encToken).size (l2 ++ ([(Token.mk 0 [] i1)] : List Token)).length (.slice ao6 (l2 ++ ([(Token.mk 0 [] i1)] : List Token)).length cap6) (xs1 ++ [(.int .i64 0), (mkS []), (.int .i64 i1)]), .blk b9 167 [(.int .i64 0), (.slice none 0 0), .nilFunc, (.int .i64 0), (.slice (some ⟨b7, 0, none⟩) ([1, 2, 3] : List Int).length 3), (.func (.func 102) #[] #[]), (.int .i64 1), (.slice (some ⟨b8, 0, none⟩) ([2] : List Int).length 1), (.func (.func 117) #[] #[]), (.int .i64 0), (.slice none 0 0), .nilFunc, (.int .i64 2), (.slice none 0 0), (.func (.func 118) #[] #[]), (.int .i64 0), (.slice none 0 0), .nilFunc], .blk b5 9 [(mkS p_text)], .blk b4 83 [(.slice ao6 (l2 ++ ([(Token.mk 0 [] i1)] : List Token)).length cap6)], .blk b3 34 [(.int .i64 0)], .blk b2 3 [(.int .i64 0)], .blk b1 83 [(.slice none 0 0)]] H2, ?_, (s.select [4, 5, 0, 1, 2, 3, 6, 7, 8, 9, 10, 11] (by decide) rfl)⟩)
    refine after_normal ?_
    refine bn (tn (WP.seq (WP.region (Vl 7 isAgg83 rfl ?_))))
    refine ws0 rfl (os_store (i := 10) (vs := [(.slice ao6 (l2 ++ ([(Token.mk 0 [] i1)] : List Token)).length cap6)]) (cs' := [(.slice ao6 (l2 ++ ([(Token.mk 0 [] i1)] : List Token)).length cap6)]) sizeOf83 rfl rfl rfl rfl rfl rfl rfl rfl rfl ?_)
    refine ws0 rfl (os_store (i := 9) (vs := [(.int .i64 0)]) (cs' := [(.int .i64 0)]) sizeOf3 rfl rfl rfl rfl rfl rfl rfl rfl rfl ?_)
    refine ws0 rfl (os_store (i := 8) (vs := [(.int .i64 0)]) (cs' := [(.int .i64 0)]) sizeOf34 rfl rfl rfl rfl rfl rfl rfl rfl rfl ?_)
    refine WL.nil (tn (WP.ret ?_))
    obtain rfl := Option.some.inj hm
    refine retQ_retM (i := 0) rfl results37 (Res.cell rfl (box_load (i := 9) isAgg83 rfl) (Res.cell rfl (box_load (i := 8) isAgg3 rfl) (Res.cell rfl (box_load (i := 7) isAgg34 rfl) Res.nil))) rfl (fun w' s => ⟨s.below, ?_⟩)
    obtain ⟨h7, hc20⟩ := s.ret_row (i := 3) rfl rl12
    exact ⟨ao6, cap6, rfl, h7, hc20⟩
   replace hm := ite_f hc18 hm
   rcases Bool.eq_false_or_eq_true (r1 == 4) with hc21 | hc21
   ·
    replace hm := ite_t hc21 hm
    refine V rfl (ov_indexAddr_at (j := 4) underlying167 sizeOf166 rfl rfl rfl (eq_of_beq hc21) rfl) (V rfl (ov_load_boxes (i := 3) (vs := [(.int .i64 2), (.slice none 0 0), (.func (.func 118) #[] #[])]) isAgg166 sizeOf166 rfl rfl rfl rfl (part_of rfl)) ?_)
    refine ws rfl (os_alloc (cs := [(.int .i64 0), (.slice none 0 0), .nilFunc]) zeroValue166 rfl rfl (fun b23 => ?_))
    refine ws0 rfl (os_store (i := 0) (vs := [(.int .i64 2), (.slice none 0 0), (.func (.func 118) #[] #[])]) (cs' := [(.int .i64 2), (.slice none 0 0), (.func (.func 118) #[] #[])]) sizeOf166 rfl rfl rfl rfl rfl rfl rfl rfl rfl ?_)
    refine WL.nil (tn (WP.seq (WP.seq (WP.region (V rfl (ov_fieldAddr underlying166 rfl rfl rfl sizeOf164 rfl rfl) (Vl 0 isAgg164 rfl (V rfl (ov_binOp (r := .bool false) rfl rfl rfl eqGuard_fn (fun _ => by kernel_rfl)) (WL.nil (tn (WP.cond_false rfl (WP.skip (tn (WP.seq ?_)))))))))))))
    refine WP.region_draws (by kernel_rfl) (by kernel_rfl) (fun _ s => s.drew) ?_
    refine qf rfl (ov_load_box (i := 5) isAgg9 rfl rfl rfl rfl) ?_
    refine qf rfl (ov_move rfl rfl) ?_
    obtain ⟨s5, e15, hm⟩ := bind_some hm
    refine qf rfl (ov_slice_string_from underlying9 rfl rfl rfl e15) ?_
    refine qf rfl (ov_fieldAddr underlying166 rfl rfl rfl sizeOf33 rfl rfl) ?_
    refine qf rfl (ov_load_box (i := 0) isAgg33 rfl rfl rfl rfl) ?_
    obtain ⟨r6, e16, hm⟩ := bind_some hm
    refine QL.quiet (Runs.free rfl) rfl rfl (oq_con (r := (.int .i64 r6)) call97 rfl rfl (fun w' s => ⟨_, (lexer_run_con s5 [] none 0  w' H2 s.hold (SL.nil _ _ _) (Nat.le_refl _) hG r6 e16)⟩)) ?_
    refine qf rfl (ov_max rfl rfl rfl) ?_
    refine qf rfl (ov_assign rfl rfl) ?_
    refine QL.nil ?_
    refine tn (WP.seq (WP.region (Vl 5 isAgg9 rfl (Vm rfl (Vm rfl (Vm rfl (V rfl (ov_add rfl rfl rfl) ?_)))))))
    obtain ⟨s6, e17, hm⟩ := bind_some hm
    refine V rfl (ov_slice_string underlying9 rfl rfl rfl rfl e17) (Va rfl (WL.nil (tn (WP.seq (WP.seq (WP.region (V rfl (ov_fieldAddr underlying166 rfl rfl rfl sizeOf164 rfl rfl) (Vl 0 isAgg164 rfl (Vm rfl ?_)))))))))
    refine ws rfl (os_inline (cap := []) (vs := [(mkS s6)]) call118 rfl rfl rfl func118 rfl 3 ntmps118 rfl (fun w' s => ?_))
    refine WP.seq (WP.region (Va rfl (WL.nil (tn (WP.seq (WP.region (Va rfl (WL.nil (tn (WP.ret ?_))))))))))
    refine retQ_ret (v := (.int .i64 0)) results118 (Res.tmp rfl Res.nil) rfl (fun w' s => ⟨_, ?_, s⟩)
    refine Va rfl (WL.nil (tn (WP.seq (WP.region (Vm rfl (V rfl (ov_fieldAddr underlying166 rfl rfl rfl sizeOf3 rfl rfl) (Vl 0 isAgg3 rfl (Vm rfl (Vm rfl (V rfl (ov_build (r := (.agg #[(.int .i64 2), (mkS s6), (.int .i64 i1)])) rfl rfl (fun _ => by kernel_rfl)) (Vm rfl ?_)))))))))))
    refine WL.yield (i := 2) (vs := [(.agg #[(.int .i64 2), (mkS s6), (.int .i64 i1)]), (.int .i64 0)]) (Runs.free rfl) rfl rfl rfl rfl rfl hr1 rfl rfl rfl ?_
    refine WP.seq (WP.region ?_)
    refine ws rfl (os_alloc (cs := [(.int .i64 0), (mkS []), (.int .i64 0)]) zeroValue91 rfl rfl (fun b24 => ?_))
    refine ws0 rfl (os_store (i := 0) (vs := [(.int .i64 2), (mkS s6), (.int .i64 i1)]) (cs' := [(.int .i64 2), (mkS s6), (.int .i64 i1)]) sizeOf91 rfl rfl rfl rfl rfl rfl rfl rfl rfl ?_)
    refine WL.nil (tn (WP.region (Va rfl (WL.nil (tn ?_)))))
    refine begin_of (i := 3) rfl ?_
    refine WP.block (WP.seq (WP.seq (WP.region (Vm rfl (V rfl (ov_neq rfl rfl rfl) (WL.nil (tn ?_)))))))
    refine WP.cond rfl (fun hc22 => ?_) (fun hc22 => ?_)
    ·
     replace hm := ite_t hc22 hm
     refine WP.seq ?_
     refine WP.region_anyF (S₀ := St w H [.blk b24 91 [(.int .i64 2), (mkS s6), (.int .i64 i1)], .blk b23 166 [(.int .i64 2), (.slice none 0 0), (.func (.func 118) #[] #[])], .row 91 (encToken).size l2.length (.slice ao2 l2.length cap2) xs1, .obj l1 (R1 .busy none), .obj D1 (.deferred (some [])), .blk b9 167 [(.int .i64 0), (.slice none 0 0), .nilFunc, (.int .i64 0), (.slice (some ⟨b7, 0, none⟩) ([1, 2, 3] : List Int).length 3), (.func (.func 102) #[] #[]), (.int .i64 1), (.slice (some ⟨b8, 0, none⟩) ([2] : List Int).length 1), (.func (.func 117) #[] #[]), (.int .i64 0), (.slice none 0 0), .nilFunc, (.int .i64 2), (.slice none 0 0), (.func (.func 118) #[] #[]), (.int .i64 0), (.slice none 0 0), .nilFunc], .blk b5 9 [(mkS p_text)], .blk b4 83 [(.slice ao2 l2.length cap2)], .blk b3 34 [(.int .i64 0)]] H2) 6 rfl (by kernel_rfl) (by kernel_rfl) (fun w' s => (s.select [0, 1, 2, 3, 4, 5, 6, 7, 8] (by decide) rfl)) (fun _ s => s.drew) ?_
     refine TQ 0 (by kernel_rfl) rfl (ov_fieldAddr underlying91 rfl rfl rfl sizeOf3 rfl rfl) (TQ 1 (by kernel_rfl) rfl (ov_load_box (i := 0) isAgg3 rfl rfl rfl rfl) (TQ 2 (by kernel_rfl) rfl (ov_move rfl rfl) ?_))
     refine AL.any (rs := [3]) (by kernel_rfl) (by decide) ?_
     refine ALs.cons0 (i := 3) rfl (Runs.free rfl) rfl ?_ ?_
     ·
      refine os_store (i := 10) (vs := [(.slice none 0 0)]) (cs' := [(.slice none 0 0)]) sizeOf83 rfl rfl rfl rfl rfl rfl rfl rfl rfl ?_
      refine ⟨fun w' s => (s.select [0, 1, 2, 3, 4, 5, 6, 7, 8] (by decide) rfl), ?_⟩
      refine AL.any (rs := [4]) (by kernel_rfl) (by decide) ?_
      refine ALs.cons0 (i := 4) rfl (Runs.free rfl) rfl ?_ ?_
      ·
       refine os_store (i := 9) (vs := [(.int .i64 i1)]) (cs' := [(.int .i64 i1)]) sizeOf3 rfl rfl rfl rfl rfl rfl rfl rfl rfl ?_
       refine ⟨fun w' s => (s.select [0, 1, 2, 3, 4, 5, 6, 7, 8] (by decide) rfl), ?_⟩
       refine AL.any (rs := [5]) (by kernel_rfl) (by decide) ?_
       refine ALs.cons0 (i := 5) rfl (Runs.free rfl) rfl ?_ ?_
       ·
        refine os_store (i := 8) (vs := [(.int .i64 0)]) (cs' := [(.int .i64 0)]) sizeOf34 rfl rfl rfl rfl rfl rfl rfl rfl rfl ?_
        refine ⟨fun w' s => (s.select [0, 1, 2, 3, 4, 5, 6, 7, 8] (by decide) rfl), ?_⟩
        refine AL.done (by kernel_rfl) ?_
        refine tn (WP.ret (then_ret (block_ret ?_)))
        refine round_ret (i := 3) rfl ?_
        refine V rfl (ov_not rfl rfl) (Vm rfl (Vi rfl (Idle.no rfl rfl rfl rfl) (Vi rfl (Idle.no rfl rfl rfl rfl) (V rfl (ov_pick_true rfl (guard_eq rfl rfl) rfl) (WL.nil (tn (WP.cond_true rfl (WP.ret (then_ret (block_ret (then_ret (block_ret (then_ret ?_)))))))))))))
        refine retQ_ret (v := (.tuple #[])) results95 Res.nil rfl (fun w' s => ⟨St w H [.obj l1 (R1 .done (some .ret)), .obj D1 (.deferred (some [])), .blk b24 91 [(.int .i64 2), (mkS s6), (.int .i64 i1)], .blk b23 166 [(.int .i64 2), (.slice none 0 0), (.func (.func 118) #[] #[])], .row 91 (encToken).size l2.length (.slice ao2 l2.length cap2) xs1, .blk b9 167 [(.int .i64 0), (.slice none 0 0), .nilFunc, (.int .i64 0), (.slice (some ⟨b7, 0, none⟩) ([1, 2, 3] : List Int).length 3), (.func (.func 102) #[] #[]), (.int .i64 1), (.slice (some ⟨b8, 0, none⟩) ([2] : List Int).length 1), (.func (.func 117) #[] #[]), (.int .i64 0), (.slice none 0 0), .nilFunc, (.int .i64 2), (.slice none 0 0), (.func (.func 118) #[] #[]), (.int .i64 0), (.slice none 0 0), .nilFunc], .blk b5 9 [(mkS p_text)], .blk b4 83 [(.slice ao2 l2.length cap2)], .blk b3 34 [(.int .i64 0)], .blk b2 3 [(.int .i64 i1)], .blk b1 83 [(.slice none 0 0)]] H2, ?_, (s.select [3, 4, 0, 1, 2, 5, 6, 7, 8, 9, 10] (by decide) rfl)⟩)
        refine after_ret ?_
        refine block_ret (then_ret ?_)
        obtain rfl := Option.some.inj hm
        refine retQ_retM (i := 0) rfl results37 (Res.cell rfl (box_load (i := 8) isAgg83 rfl) (Res.cell rfl (box_load (i := 7) isAgg3 rfl) (Res.cell rfl (box_load (i := 6) isAgg34 rfl) Res.nil))) rfl (fun w' s => ⟨s.below, ?_⟩)
        exact ⟨none, 0, rfl, SL.nil _ _ _, Nat.le_refl _⟩
       exact ALs.nil
      exact ALs.nil
     exact ALs.nil
    replace hm := ite_f hc22 hm
    refine WP.skip (tn (WP.region (Vl 7 isAgg83 rfl (V rfl (ov_load_whole (i := 0) isAgg91 sizeOf91 rfl rfl rfl rfl) ?_))))
    have rl13 : RL H2 encToken ([(Token.mk 2 s6 i1)] : List Token) [(.int .i64 2), (mkS s6), (.int .i64 i1)] := RL.cons (cs := [(.int .i64 2), (mkS s6), (.int .i64 i1)]) (xs := []) rfl (RL.nil _ _)
    refine ws rfl (os_buildSlice (cs := [(.int .i64 2), (mkS s6), (.int .i64 i1)]) (E := 91) (sz := 3) rfl rfl (fun _ => by kernel_rfl) rfl (by decide) (fun b25 => ?_))
    obtain ⟨l7, e18, hm⟩ := bind_some hm
    refine ws rfl (os_app (i := 3) (j := 0) (En := encToken) (xs := xs1) (ys := [(.int .i64 2), (mkS s6), (.int .i64 i1)]) underlying83 (by kernel_rfl : (prog.info? 91).map (fun i => (i.zero, i.size, i.bytes)) = some (some (.agg #[(.int .i64 0), (mkS []), (.int .i64 0)]), (encToken).size, 32)) rfl (by decide) rfl rfl rfl rfl rfl rfl rl4 rl13 e18 (fun ao7 cap7 rl14 => ?_))
    refine ws0 rfl (os_store (i := 8) (vs := [(.slice ao7 (l2 ++ ([(Token.mk 2 s6 i1)] : List Token)).length cap7)]) (cs' := [(.slice ao7 (l2 ++ ([(Token.mk 2 s6 i1)] : List Token)).length cap7)]) sizeOf83 rfl rfl rfl rfl rfl rfl rfl rfl rfl ?_)
    refine WL.nil (bn ?_)
    refine round_normal (i := 4) rfl ?_
    refine V rfl (ov_not rfl rfl) (Vm rfl ?_)
    refine wy rfl rfl (ov_move rfl rfl) ?_
    refine wy rfl rfl (ov_neq rfl rfl rfl) ?_
    refine V rfl (ov_pick_false rfl (guard_eq rfl rfl) rfl) (WL.nil (tn ?_))
    refine WP.cond rfl (fun hc23 => ?_) (fun hc23 => ?_)
    ·
     replace hm := ite_t hc23 hm
     refine WP.ret (then_ret (block_ret (then_ret (block_ret (then_ret ?_)))))
     refine retQ_ret (v := (.tuple #[])) results95 Res.nil rfl (fun w' s => ⟨St w H [.obj l1 (R1 .ready none), .obj D1 (.deferred (some [])), .row 91 (encToken).size ([(Token.mk 2 s6 i1)] : List Token).length (.slice (some ⟨b25, 0, none⟩) ([(Token.mk 2 s6 i1)] : List Token).length 1) [(.int .i64 2), (mkS s6), (.int .i64 i1)], .blk b24 91 [(.int .i64 2), (mkS s6), (.int .i64 i1)], .blk b23 166 [(.int .i64 2), (.slice none 0 0), (.func (.func 118) #[] #[])], .row 91 (encToken).size (l2 ++ ([(Token.mk 2 s6 i1)] : List Token)).length (.slice ao7 (l2 ++ ([(Token.mk 2 s6 i1)] : List Token)).length cap7) (xs1 ++ [(.int .i64 2), (mkS s6), (.int .i64 i1)]), .blk b9 167 [(.int .i64 0), (.slice none 0 0), .nilFunc, (.int .i64 0), (.slice (some ⟨b7, 0, none⟩) ([1, 2, 3] : List Int).length 3), (.func (.func 102) #[] #[]), (.int .i64 1), (.slice (some ⟨b8, 0, none⟩) ([2] : List Int).length 1), (.func (.func 117) #[] #[]), (.int .i64 0), (.slice none 0 0), .nilFunc, (.int .i64 2), (.slice none 0 0), (.func (.func 118) #[] #[]), (.int .i64 0), (.slice none 0 0), .nilFunc], .blk b5 9 [(mkS p_text)], .blk b4 83 [(.slice ao7 (l2 ++ ([(Token.mk 2 s6 i1)] : List Token)).length cap7)], .blk b3 34 [(.int .i64 0)], .blk b2 3 [(.int .i64 0)], .blk b1 83 [(.slice none 0 0)]] H2, ?_, (s.select [4, 5, 0, 1, 2, 3, 6, 7, 8, 9, 10, 11] (by decide) rfl)⟩)
     refine after_normal ?_
     refine bn (tn (WP.seq (WP.region (Vl 7 isAgg83 rfl ?_))))
     refine ws0 rfl (os_store (i := 10) (vs := [(.slice ao7 (l2 ++ ([(Token.mk 2 s6 i1)] : List Token)).length cap7)]) (cs' := [(.slice ao7 (l2 ++ ([(Token.mk 2 s6 i1)] : List Token)).length cap7)]) sizeOf83 rfl rfl rfl rfl rfl rfl rfl rfl rfl ?_)
     refine ws0 rfl (os_store (i := 9) (vs := [(.int .i64 0)]) (cs' := [(.int .i64 0)]) sizeOf3 rfl rfl rfl rfl rfl rfl rfl rfl rfl ?_)
     refine ws0 rfl (os_store (i := 8) (vs := [(.int .i64 0)]) (cs' := [(.int .i64 0)]) sizeOf34 rfl rfl rfl rfl rfl rfl rfl rfl rfl ?_)
     refine WL.nil (tn (WP.ret ?_))
     obtain rfl := Option.some.inj hm
     refine retQ_retM (i := 0) rfl results37 (Res.cell rfl (box_load (i := 9) isAgg83 rfl) (Res.cell rfl (box_load (i := 8) isAgg3 rfl) (Res.cell rfl (box_load (i := 7) isAgg34 rfl) Res.nil))) rfl (fun w' s => ⟨s.below, ?_⟩)
     obtain ⟨h8, hc24⟩ := s.ret_row (i := 3) rfl rl14
     exact ⟨ao7, cap7, rfl, h8, hc24⟩
    replace hm := ite_f hc23 hm
    refine WP.skip (tn (WP.region (Vm rfl (Vm rfl (V rfl (ov_add rfl rfl rfl) (Va rfl (WL.nil (bn (tn ?_)))))))))
    exact ⟨(IntKind.wrap .i64 (i1 + (if r6 > 1 then r6 else 1))), (l2 ++ ([(Token.mk 2 s6 i1)] : List Token)), ao7, cap7, (xs1 ++ [(.int .i64 2), (mkS s6), (.int .i64 i1)]), rl14, (Sub.all rfl), fun w' s => (s.select [3, 4, 5, 6, 7, 8, 9, 10, 11] (by decide) rfl), hm⟩
   replace hm := ite_f hc21 hm
   rcases Bool.eq_false_or_eq_true (r1 == 5) with hc25 | hc25
   ·
    replace hm := ite_t hc25 hm
    refine V rfl (ov_indexAddr_at (j := 5) underlying167 sizeOf166 rfl rfl rfl (eq_of_beq hc25) rfl) (V rfl (ov_load_boxes (i := 3) (vs := [(.int .i64 0), (.slice none 0 0), .nilFunc]) isAgg166 sizeOf166 rfl rfl rfl rfl (part_of rfl)) ?_)
    refine ws rfl (os_alloc (cs := [(.int .i64 0), (.slice none 0 0), .nilFunc]) zeroValue166 rfl rfl (fun b26 => ?_))
    refine ws0 rfl (os_store (i := 0) (vs := [(.int .i64 0), (.slice none 0 0), .nilFunc]) (cs' := [(.int .i64 0), (.slice none 0 0), .nilFunc]) sizeOf166 rfl rfl rfl rfl rfl rfl rfl rfl rfl ?_)
    refine WL.nil (tn (WP.seq (WP.seq (WP.region (V rfl (ov_fieldAddr underlying166 rfl rfl rfl sizeOf164 rfl rfl) (Vl 0 isAgg164 rfl (V rfl (ov_binOp (r := .bool true) rfl rfl rfl eqGuard_nofn (fun _ => by kernel_rfl)) (WL.nil (tn (WP.cond_true rfl (WP.seq (WP.region (Vm rfl ?_)))))))))))))
    refine Vm rfl (V rfl (ov_build (r := (.agg #[(.int .i64 0), (mkS []), (.int .i64 i1)])) rfl rfl (fun _ => by kernel_rfl)) ?_)
    refine WL.yield (i := 2) (vs := [(.agg #[(.int .i64 0), (mkS []), (.int .i64 i1)]), (.int .i64 4)]) (Runs.free rfl) rfl rfl rfl rfl rfl hr1 rfl rfl rfl ?_
    refine WP.seq (WP.region ?_)
    refine ws rfl (os_alloc (cs := [(.int .i64 0), (mkS []), (.int .i64 0)]) zeroValue91 rfl rfl (fun b27 => ?_))
    refine ws0 rfl (os_store (i := 0) (vs := [(.int .i64 0), (mkS []), (.int .i64 i1)]) (cs' := [(.int .i64 0), (mkS []), (.int .i64 i1)]) sizeOf91 rfl rfl rfl rfl rfl rfl rfl rfl rfl ?_)
    refine WL.nil (tn (WP.region (Va rfl (WL.nil (tn ?_)))))
    refine begin_of (i := 3) rfl ?_
    refine WP.block (WP.seq (WP.seq (WP.region (Vm rfl (V rfl (ov_neq rfl rfl rfl) (WL.nil (tn ?_)))))))
    refine WP.cond rfl (fun hc26 => ?_) (fun hc26 => ?_)
    ·
     replace hm := ite_t hc26 hm
     refine WP.seq ?_
     refine WP.region_anyF (S₀ := St w H [.blk b27 91 [(.int .i64 0), (mkS []), (.int .i64 i1)], .blk b26 166 [(.int .i64 0), (.slice none 0 0), .nilFunc], .row 91 (encToken).size l2.length (.slice ao2 l2.length cap2) xs1, .obj l1 (R1 .busy none), .obj D1 (.deferred (some [])), .blk b9 167 [(.int .i64 0), (.slice none 0 0), .nilFunc, (.int .i64 0), (.slice (some ⟨b7, 0, none⟩) ([1, 2, 3] : List Int).length 3), (.func (.func 102) #[] #[]), (.int .i64 1), (.slice (some ⟨b8, 0, none⟩) ([2] : List Int).length 1), (.func (.func 117) #[] #[]), (.int .i64 0), (.slice none 0 0), .nilFunc, (.int .i64 2), (.slice none 0 0), (.func (.func 118) #[] #[]), (.int .i64 0), (.slice none 0 0), .nilFunc], .blk b5 9 [(mkS p_text)], .blk b4 83 [(.slice ao2 l2.length cap2)]] H2) 6 rfl (by kernel_rfl) (by kernel_rfl) (fun w' s => (s.select [0, 1, 2, 3, 4, 5, 6, 7] (by decide) rfl)) (fun _ s => s.drew) ?_
     refine TQ 0 (by kernel_rfl) rfl (ov_fieldAddr underlying91 rfl rfl rfl sizeOf3 rfl rfl) (TQ 1 (by kernel_rfl) rfl (ov_load_box (i := 0) isAgg3 rfl rfl rfl rfl) (TQ 2 (by kernel_rfl) rfl (ov_move rfl rfl) ?_))
     refine AL.any (rs := [3]) (by kernel_rfl) (by decide) ?_
     refine ALs.cons0 (i := 3) rfl (Runs.free rfl) rfl ?_ ?_
     ·
      refine os_store (i := 10) (vs := [(.slice none 0 0)]) (cs' := [(.slice none 0 0)]) sizeOf83 rfl rfl rfl rfl rfl rfl rfl rfl rfl ?_
      refine ⟨fun w' s => (s.select [0, 1, 2, 3, 4, 5, 6, 7] (by decide) rfl), ?_⟩
      refine AL.any (rs := [4]) (by kernel_rfl) (by decide) ?_
      refine ALs.cons0 (i := 4) rfl (Runs.free rfl) rfl ?_ ?_
      ·
       refine os_store (i := 9) (vs := [(.int .i64 i1)]) (cs' := [(.int .i64 i1)]) sizeOf3 rfl rfl rfl rfl rfl rfl rfl rfl rfl ?_
       refine ⟨fun w' s => (s.select [0, 1, 2, 3, 4, 5, 6, 7] (by decide) rfl), ?_⟩
       refine AL.any (rs := [5]) (by kernel_rfl) (by decide) ?_
       refine ALs.cons0 (i := 5) rfl (Runs.free rfl) rfl ?_ ?_
       ·
        refine os_store (i := 8) (vs := [(.int .i64 4)]) (cs' := [(.int .i64 4)]) sizeOf34 rfl rfl rfl rfl rfl rfl rfl rfl rfl ?_
        refine ⟨fun w' s => (s.select [0, 1, 2, 3, 4, 5, 6, 7] (by decide) rfl), ?_⟩
        refine AL.done (by kernel_rfl) ?_
        refine tn (WP.ret (then_ret (block_ret ?_)))
        refine round_ret (i := 3) rfl ?_
        refine WL.nil (tn (WP.ret (then_ret (block_ret (then_ret (block_ret (then_ret ?_)))))))
        refine retQ_ret (v := (.tuple #[])) results95 Res.nil rfl (fun w' s => ⟨St w H [.obj l1 (R1 .done (some .ret)), .obj D1 (.deferred (some [])), .blk b27 91 [(.int .i64 0), (mkS []), (.int .i64 i1)], .blk b26 166 [(.int .i64 0), (.slice none 0 0), .nilFunc], .row 91 (encToken).size l2.length (.slice ao2 l2.length cap2) xs1, .blk b9 167 [(.int .i64 0), (.slice none 0 0), .nilFunc, (.int .i64 0), (.slice (some ⟨b7, 0, none⟩) ([1, 2, 3] : List Int).length 3), (.func (.func 102) #[] #[]), (.int .i64 1), (.slice (some ⟨b8, 0, none⟩) ([2] : List Int).length 1), (.func (.func 117) #[] #[]), (.int .i64 0), (.slice none 0 0), .nilFunc, (.int .i64 2), (.slice none 0 0), (.func (.func 118) #[] #[]), (.int .i64 0), (.slice none 0 0), .nilFunc], .blk b5 9 [(mkS p_text)], .blk b4 83 [(.slice ao2 l2.length cap2)], .blk b3 34 [(.int .i64 4)], .blk b2 3 [(.int .i64 i1)], .blk b1 83 [(.slice none 0 0)]] H2, ?_, (s.select [3, 4, 0, 1, 2, 5, 6, 7, 8, 9, 10] (by decide) rfl)⟩)
        refine after_ret ?_
        refine block_ret (then_ret ?_)
        obtain rfl := Option.some.inj hm
        refine retQ_retM (i := 0) rfl results37 (Res.cell rfl (box_load (i := 8) isAgg83 rfl) (Res.cell rfl (box_load (i := 7) isAgg3 rfl) (Res.cell rfl (box_load (i := 6) isAgg34 rfl) Res.nil))) rfl (fun w' s => ⟨s.below, ?_⟩)
        exact ⟨none, 0, rfl, SL.nil _ _ _, Nat.le_refl _⟩
       exact ALs.nil
      exact ALs.nil
     exact ALs.nil
    replace hm := ite_f hc26 hm
    refine WP.skip (tn (WP.region (Vl 7 isAgg83 rfl (V rfl (ov_load_whole (i := 0) isAgg91 sizeOf91 rfl rfl rfl rfl) ?_))))
    have rl15 : RL H2 encToken ([(Token.mk 0 [] i1)] : List Token) [(.int .i64 0), (mkS []), (.int .i64 i1)] := RL.cons (cs := [(.int .i64 0), (mkS []), (.int .i64 i1)]) (xs := []) rfl (RL.nil _ _)
    refine ws rfl (os_buildSlice (cs := [(.int .i64 0), (mkS []), (.int .i64 i1)]) (E := 91) (sz := 3) rfl rfl (fun _ => by kernel_rfl) rfl (by decide) (fun b28 => ?_))
    obtain ⟨l8, e19, hm⟩ := bind_some hm
    refine ws rfl (os_app (i := 3) (j := 0) (En := encToken) (xs := xs1) (ys := [(.int .i64 0), (mkS []), (.int .i64 i1)]) underlying83 (by kernel_rfl : (prog.info? 91).map (fun i => (i.zero, i.size, i.bytes)) = some (some (.agg #[(.int .i64 0), (mkS []), (.int .i64 0)]), (encToken).size, 32)) rfl (by decide) rfl rfl rfl rfl rfl rfl rl4 rl15 e19 (fun ao8 cap8 rl16 => ?_))
    refine ws0 rfl (os_store (i := 8) (vs := [(.slice ao8 (l2 ++ ([(Token.mk 0 [] i1)] : List Token)).length cap8)]) (cs' := [(.slice ao8 (l2 ++ ([(Token.mk 0 [] i1)] : List Token)).length cap8)]) sizeOf83 rfl rfl rfl rfl rfl rfl rfl rfl rfl ?_)
    refine WL.nil (bn ?_)
    refine round_normal (i := 4) rfl ?_
    refine WL.nil (tn (WP.ret (then_ret (block_ret (then_ret (block_ret (then_ret ?_)))))))
    refine retQ_ret (v := (.tuple #[])) results95 Res.nil rfl (fun w' s => ⟨St w H [.obj l1 (R1 .ready none), .obj D1 (.deferred (some [])), .row 91 (encToken).size ([(Token.mk 0 [] i1)] : List Token).length (.slice (some ⟨b28, 0, none⟩) ([(Token.mk 0 [] i1)] : List Token).length 1) [(.int .i64 0), (mkS []), (.int .i64 i1)], .blk b27 91 [(.int .i64 0), (mkS []), (.int .i64 i1)], .blk b26 166 [(.int .i64 0), (.slice none 0 0), .nilFunc], .row 91 (encToken).size (l2 ++ ([(Token.mk 0 [] i1)] : List Token)).length (.slice ao8 (l2 ++ ([(Token.mk 0 [] i1)] : List Token)).length cap8) (xs1 ++ [(.int .i64 0), (mkS []), (.int .i64 i1)]), .blk b9 167 [(.int .i64 0), (.slice none 0 0), .nilFunc, (.int .i64 0), (.slice (some ⟨b7, 0, none⟩) ([1, 2, 3] : List Int).length 3), (.func (.func 102) #[] #[]), (.int .i64 1), (.slice (some ⟨b8, 0, none⟩) ([2] : List Int).length 1), (.func (.func 117) #[] #[]), (.int .i64 0), (.slice none 0 0), .nilFunc, (.int .i64 2), (.slice none 0 0), (.func (.func 118) #[] #[]), (.int .i64 0), (.slice none 0 0), .nilFunc], .blk b5 9 [(mkS p_text)], .blk b4 83 [(.slice ao8 (l2 ++ ([(Token.mk 0 [] i1)] : List Token)).length cap8)], .blk b3 34 [(.int .i64 0)], .blk b2 3 [(.int .i64 0)], .blk b1 83 [(.slice none 0 0)]] H2, ?_, (s.select [4, 5, 0, 1, 2, 3, 6, 7, 8, 9, 10, 11] (by decide) rfl)⟩)
    refine after_normal ?_
    refine bn (tn (WP.seq (WP.region (Vl 7 isAgg83 rfl ?_))))
    refine ws0 rfl (os_store (i := 10) (vs := [(.slice ao8 (l2 ++ ([(Token.mk 0 [] i1)] : List Token)).length cap8)]) (cs' := [(.slice ao8 (l2 ++ ([(Token.mk 0 [] i1)] : List Token)).length cap8)]) sizeOf83 rfl rfl rfl rfl rfl rfl rfl rfl rfl ?_)
    refine ws0 rfl (os_store (i := 9) (vs := [(.int .i64 0)]) (cs' := [(.int .i64 0)]) sizeOf3 rfl rfl rfl rfl rfl rfl rfl rfl rfl ?_)
    refine ws0 rfl (os_store (i := 8) (vs := [(.int .i64 0)]) (cs' := [(.int .i64 0)]) sizeOf34 rfl rfl rfl rfl rfl rfl rfl rfl rfl ?_)
    refine WL.nil (tn (WP.ret ?_))
    obtain rfl := Option.some.inj hm
    refine retQ_retM (i := 0) rfl results37 (Res.cell rfl (box_load (i := 9) isAgg83 rfl) (Res.cell rfl (box_load (i := 8) isAgg3 rfl) (Res.cell rfl (box_load (i := 7) isAgg34 rfl) Res.nil))) rfl (fun w' s => ⟨s.below, ?_⟩)
    obtain ⟨h9, hc27⟩ := s.ret_row (i := 3) rfl rl16
    exact ⟨ao8, cap8, rfl, h9, hc27⟩
   replace hm := ite_f hc25 hm
   exact (none_some hm).elim
  replace hm := ite_f hc5 hm
  refine WP.exit (then_exit (then_exit (block_here (tn ?_))))
  exact ⟨l2, ao2, cap2, xs1, rl4, (Sub.all rfl), fun w' s => s, hm⟩
 rintro g' S' ⟨l9, ao9, cap9, xs2, rl17, hsub2, hS2, hm⟩
 refine WP.sub hsub2 (WP.weaken hS2 ?_)
 replace hm := (congrFun hk1 l9).symm.trans hm
 refine WP.region (Vm rfl (Vl 4 isAgg9 rfl (V rfl (ov_len_string underlying9 rfl rfl) (V rfl (ov_build (r := (.agg #[(.int .i64 3), (mkS []), (.int .i64 (p_text.length : Int))])) rfl rfl (fun _ => by kernel_rfl)) ?_))))
 refine WL.yield (i := 1) (vs := [(.agg #[(.int .i64 3), (mkS []), (.int .i64 (p_text.length : Int))]), (.int .i64 0)]) (Runs.free rfl) rfl rfl rfl rfl rfl hr1 rfl rfl rfl ?_
 refine WP.seq (WP.region ?_)
 refine ws rfl (os_alloc (cs := [(.int .i64 0), (mkS []), (.int .i64 0)]) zeroValue91 rfl rfl (fun b29 => ?_))
 refine ws0 rfl (os_store (i := 0) (vs := [(.int .i64 3), (mkS []), (.int .i64 (p_text.length : Int))]) (cs' := [(.int .i64 3), (mkS []), (.int .i64 (p_text.length : Int))]) sizeOf91 rfl rfl rfl rfl rfl rfl rfl rfl rfl ?_)
 refine WL.nil (tn (WP.region (Va rfl (WL.nil (tn ?_)))))
 refine begin_of (i := 2) rfl ?_
 refine WP.block (WP.seq (WP.seq (WP.region (Vm rfl (V rfl (ov_neq rfl rfl rfl) (WL.nil (tn ?_)))))))
 refine WP.cond rfl (fun hc28 => ?_) (fun hc28 => ?_)
 ·
  replace hm := ite_t hc28 hm
  refine WP.seq ?_
  refine WP.region_anyF (S₀ := St w H [.blk b29 91 [(.int .i64 3), (mkS []), (.int .i64 (p_text.length : Int))], .row 91 (encToken).size l9.length (.slice ao9 l9.length cap9) xs2, .obj l1 (R1 .busy none), .obj D1 (.deferred (some [])), .blk b9 167 [(.int .i64 0), (.slice none 0 0), .nilFunc, (.int .i64 0), (.slice (some ⟨b7, 0, none⟩) ([1, 2, 3] : List Int).length 3), (.func (.func 102) #[] #[]), (.int .i64 1), (.slice (some ⟨b8, 0, none⟩) ([2] : List Int).length 1), (.func (.func 117) #[] #[]), (.int .i64 0), (.slice none 0 0), .nilFunc, (.int .i64 2), (.slice none 0 0), (.func (.func 118) #[] #[]), (.int .i64 0), (.slice none 0 0), .nilFunc], .blk b5 9 [(mkS p_text)], .blk b4 83 [(.slice ao9 l9.length cap9)], .blk b3 34 [(.int .i64 0)]] H2) 6 rfl (by kernel_rfl) (by kernel_rfl) (fun w' s => (s.select [0, 1, 2, 3, 4, 5, 6, 7] (by decide) rfl)) (fun _ s => s.drew) ?_
  refine TQ 0 (by kernel_rfl) rfl (ov_fieldAddr underlying91 rfl rfl rfl sizeOf3 rfl rfl) (TQ 1 (by kernel_rfl) rfl (ov_load_box (i := 0) isAgg3 rfl rfl rfl rfl) (TQ 2 (by kernel_rfl) rfl (ov_move rfl rfl) ?_))
  refine AL.any (rs := [3]) (by kernel_rfl) (by decide) ?_
  refine ALs.cons0 (i := 3) rfl (Runs.free rfl) rfl ?_ ?_
  ·
   refine os_store (i := 9) (vs := [(.slice none 0 0)]) (cs' := [(.slice none 0 0)]) sizeOf83 rfl rfl rfl rfl rfl rfl rfl rfl rfl ?_
   refine ⟨fun w' s => (s.select [0, 1, 2, 3, 4, 5, 6, 7] (by decide) rfl), ?_⟩
   refine AL.any (rs := [4]) (by kernel_rfl) (by decide) ?_
   refine ALs.cons0 (i := 4) rfl (Runs.free rfl) rfl ?_ ?_
   ·
    refine os_store (i := 8) (vs := [(.int .i64 (p_text.length : Int))]) (cs' := [(.int .i64 (p_text.length : Int))]) sizeOf3 rfl rfl rfl rfl rfl rfl rfl rfl rfl ?_
    refine ⟨fun w' s => (s.select [0, 1, 2, 3, 4, 5, 6, 7] (by decide) rfl), ?_⟩
    refine AL.any (rs := [5]) (by kernel_rfl) (by decide) ?_
    refine ALs.cons0 (i := 5) rfl (Runs.free rfl) rfl ?_ ?_
    ·
     refine os_store (i := 7) (vs := [(.int .i64 0)]) (cs' := [(.int .i64 0)]) sizeOf34 rfl rfl rfl rfl rfl rfl rfl rfl rfl ?_
     refine ⟨fun w' s => (s.select [0, 1, 2, 3, 4, 5, 6, 7] (by decide) rfl), ?_⟩
     refine AL.done (by kernel_rfl) ?_
     refine tn (WP.ret (then_ret (block_ret ?_)))
     refine round_ret (i := 2) rfl ?_
     refine WL.nil ?_
     refine retQ_end (v := (.tuple #[])) results95 Res.nil rfl (fun w' s => ⟨St w H [.obj l1 (R1 .done (some .ret)), .obj D1 (.deferred (some [])), .blk b29 91 [(.int .i64 3), (mkS []), (.int .i64 (p_text.length : Int))], .row 91 (encToken).size l9.length (.slice ao9 l9.length cap9) xs2, .blk b9 167 [(.int .i64 0), (.slice none 0 0), .nilFunc, (.int .i64 0), (.slice (some ⟨b7, 0, none⟩) ([1, 2, 3] : List Int).length 3), (.func (.func 102) #[] #[]), (.int .i64 1), (.slice (some ⟨b8, 0, none⟩) ([2] : List Int).length 1), (.func (.func 117) #[] #[]), (.int .i64 0), (.slice none 0 0), .nilFunc, (.int .i64 2), (.slice none 0 0), (.func (.func 118) #[] #[]), (.int .i64 0), (.slice none 0 0), .nilFunc], .blk b5 9 [(mkS p_text)], .blk b4 83 [(.slice ao9 l9.length cap9)], .blk b3 34 [(.int .i64 0)], .blk b2 3 [(.int .i64 (p_text.length : Int))], .blk b1 83 [(.slice none 0 0)]] H2, ?_, (s.select [2, 3, 0, 1, 4, 5, 6, 7, 8, 9] (by decide) rfl)⟩)
     refine after_ret ?_
     refine block_ret (then_ret ?_)
     obtain rfl := Option.some.inj hm
     refine retQ_retM (i := 0) rfl results37 (Res.cell rfl (box_load (i := 7) isAgg83 rfl) (Res.cell rfl (box_load (i := 6) isAgg3 rfl) (Res.cell rfl (box_load (i := 5) isAgg34 rfl) Res.nil))) rfl (fun w' s => ⟨s.below, ?_⟩)
     exact ⟨none, 0, rfl, SL.nil _ _ _, Nat.le_refl _⟩
    exact ALs.nil
   exact ALs.nil
  exact ALs.nil
 replace hm := ite_f hc28 hm
 refine WP.skip (tn (WP.region (Vl 6 isAgg83 rfl (V rfl (ov_load_whole (i := 0) isAgg91 sizeOf91 rfl rfl rfl rfl) ?_))))
 have rl18 : RL H2 encToken ([(Token.mk 3 [] (p_text.length : Int))] : List Token) [(.int .i64 3), (mkS []), (.int .i64 (p_text.length : Int))] := RL.cons (cs := [(.int .i64 3), (mkS []), (.int .i64 (p_text.length : Int))]) (xs := []) rfl (RL.nil _ _)
 refine ws rfl (os_buildSlice (cs := [(.int .i64 3), (mkS []), (.int .i64 (p_text.length : Int))]) (E := 91) (sz := 3) rfl rfl (fun _ => by kernel_rfl) rfl (by decide) (fun b30 => ?_))
 obtain ⟨l10, e20, hm⟩ := bind_some hm
 refine ws rfl (os_app (i := 2) (j := 0) (En := encToken) (xs := xs2) (ys := [(.int .i64 3), (mkS []), (.int .i64 (p_text.length : Int))]) underlying83 (by kernel_rfl : (prog.info? 91).map (fun i => (i.zero, i.size, i.bytes)) = some (some (.agg #[(.int .i64 0), (mkS []), (.int .i64 0)]), (encToken).size, 32)) rfl (by decide) rfl rfl rfl rfl rfl rfl rl17 rl18 e20 (fun ao10 cap10 rl19 => ?_))
 refine ws0 rfl (os_store (i := 7) (vs := [(.slice ao10 (l9 ++ ([(Token.mk 3 [] (p_text.length : Int))] : List Token)).length cap10)]) (cs' := [(.slice ao10 (l9 ++ ([(Token.mk 3 [] (p_text.length : Int))] : List Token)).length cap10)]) sizeOf83 rfl rfl rfl rfl rfl rfl rfl rfl rfl ?_)
 refine WL.nil (bn ?_)
 refine round_normal (i := 3) rfl ?_
 refine WL.nil ?_
 refine retQ_end (v := (.tuple #[])) results95 Res.nil rfl (fun w' s => ⟨St w H [.obj l1 (R1 .ready none), .obj D1 (.deferred (some [])), .row 91 (encToken).size ([(Token.mk 3 [] (p_text.length : Int))] : List Token).length (.slice (some ⟨b30, 0, none⟩) ([(Token.mk 3 [] (p_text.length : Int))] : List Token).length 1) [(.int .i64 3), (mkS []), (.int .i64 (p_text.length : Int))], .blk b29 91 [(.int .i64 3), (mkS []), (.int .i64 (p_text.length : Int))], .row 91 (encToken).size (l9 ++ ([(Token.mk 3 [] (p_text.length : Int))] : List Token)).length (.slice ao10 (l9 ++ ([(Token.mk 3 [] (p_text.length : Int))] : List Token)).length cap10) (xs2 ++ [(.int .i64 3), (mkS []), (.int .i64 (p_text.length : Int))]), .blk b9 167 [(.int .i64 0), (.slice none 0 0), .nilFunc, (.int .i64 0), (.slice (some ⟨b7, 0, none⟩) ([1, 2, 3] : List Int).length 3), (.func (.func 102) #[] #[]), (.int .i64 1), (.slice (some ⟨b8, 0, none⟩) ([2] : List Int).length 1), (.func (.func 117) #[] #[]), (.int .i64 0), (.slice none 0 0), .nilFunc, (.int .i64 2), (.slice none 0 0), (.func (.func 118) #[] #[]), (.int .i64 0), (.slice none 0 0), .nilFunc], .blk b5 9 [(mkS p_text)], .blk b4 83 [(.slice ao10 (l9 ++ ([(Token.mk 3 [] (p_text.length : Int))] : List Token)).length cap10)], .blk b3 34 [(.int .i64 0)], .blk b2 3 [(.int .i64 0)], .blk b1 83 [(.slice none 0 0)]] H2, ?_, (s.select [3, 4, 0, 1, 2, 5, 6, 7, 8, 9, 10] (by decide) rfl)⟩)
 refine after_normal ?_
 refine bn (tn (WP.seq (WP.region (Vl 6 isAgg83 rfl ?_))))
 refine ws0 rfl (os_store (i := 9) (vs := [(.slice ao10 (l9 ++ ([(Token.mk 3 [] (p_text.length : Int))] : List Token)).length cap10)]) (cs' := [(.slice ao10 (l9 ++ ([(Token.mk 3 [] (p_text.length : Int))] : List Token)).length cap10)]) sizeOf83 rfl rfl rfl rfl rfl rfl rfl rfl rfl ?_)
 refine ws0 rfl (os_store (i := 8) (vs := [(.int .i64 0)]) (cs' := [(.int .i64 0)]) sizeOf3 rfl rfl rfl rfl rfl rfl rfl rfl rfl ?_)
 refine ws0 rfl (os_store (i := 7) (vs := [(.int .i64 0)]) (cs' := [(.int .i64 0)]) sizeOf34 rfl rfl rfl rfl rfl rfl rfl rfl rfl ?_)
 refine WL.nil (tn (WP.ret ?_))
 obtain rfl := Option.some.inj hm
 refine retQ_retM (i := 0) rfl results37 (Res.cell rfl (box_load (i := 8) isAgg83 rfl) (Res.cell rfl (box_load (i := 7) isAgg3 rfl) (Res.cell rfl (box_load (i := 6) isAgg34 rfl) Res.nil))) rfl (fun w' s => ⟨s.below, ?_⟩)
 obtain ⟨h10, hc29⟩ := s.ret_row (i := 2) rfl rl19
 exact ⟨ao10, cap10, rfl, h10, hc29⟩
end Go.Proofs.YtkgijoddkibapaaGreatDoor.W
