import Derived.Test.YtkgijoddkibapaaGreatDoorPlain
import Derived.Test.YtkgijoddkibapaaGreatDoorEqs
import Derived.Test.YtkgijoddkibapaaGreatDoorProg
import Derived.Test.YtkgijoddkibapaaGreatDoorExt
import Derived.Test.YtkgijoddkibapaaGreatDoorBuild
import Derived.Test.YtkgijoddkibapaaGreatDoorClone
import Derived.Test.YtkgijoddkibapaaGreatDoorWalk1
set_option linter.unusedVariables false
set_option maxRecDepth 100000
set_option maxHeartbeats 4000000
namespace Go.Proofs.YtkgijoddkibapaaGreatDoor.W
open Go Go.RowKit Go.Proofs.Tryz
theorem ref17_Whole_con (p_s : Sequence) (p_p : Plant) (ao1 : Option Addr) (cap1 : Nat) (ao2 : Option Addr) (cap2 : Nat) (w : World) (H : Heap) (hH : Le H (hp w)) (h1 : SL H encStep ao1 p_s.steps) (hc1 : p_s.steps.length ≤ cap1) (h2 : SL H encTravel ao2 p_p.travels) (hc2 : p_p.travels.length ≤ cap2) (hG : Glob H) (r : Span) (hm : ref17_Whole p_s p_p = some r) :
  Con prog 15 [(.agg #[(.int .i64 p_s.actuators), (.slice ao1 p_s.steps.length cap1)]), (.agg #[(.slice ao2 p_p.travels.length cap2)])] w H (fun v _ => v = (.agg #[(.int .i64 r.low), (.int .i64 r.high)])) := by
 unfold ref17_Whole at hm
 refine con_of hH func15 rfl 15 ntmps15 rfl ?_
 refine WP.seq (WP.region ?_)
 refine ws rfl (os_box (cs := [(.int .i64 p_s.actuators), (.slice ao1 p_s.steps.length cap1)]) rfl rfl rfl (fun b1 => ?_))
 refine ws rfl (os_box (cs := [(.slice ao2 p_p.travels.length cap2)]) rfl rfl rfl (fun b2 => ?_))
 refine ws rfl (os_alloc (cs := [(.int .i64 0), (.int .i64 0)]) zeroValue38 rfl rfl (fun b3 => ?_))
 refine WL.nil (tn (WP.seq ?_))
 refine WP.region_any (S₀ := St w H [.blk b2 27 [(.slice ao2 p_p.travels.length cap2)], .blk b1 24 [(.int .i64 p_s.actuators), (.slice ao1 p_s.steps.length cap1)]] H) 11 rfl (by kernel_rfl) (fun w' s => (s.select [1, 2] (by decide) rfl)) (fun _ s => s.drew) ?_
 refine TQ 0 (by kernel_rfl) rfl (ov_load_whole (i := 1) isAgg24 sizeOf24 rfl rfl rfl rfl) (TQ 1 (by kernel_rfl) rfl (ov_load_whole (i := 0) isAgg27 sizeOf27 rfl rfl rfl rfl) (TQ 3 (by kernel_rfl) rfl (ov_fieldAddr underlying24 rfl rfl rfl sizeOf22 rfl rfl) (TQ 4 (by kernel_rfl) rfl (ov_load_box (i := 1) isAgg22 rfl rfl rfl rfl) (TQ 5 (by kernel_rfl) rfl (ov_len_slice underlying22 rfl rfl) (TQ 6 (by kernel_rfl) rfl (ov_sub rfl rfl rfl) ?_)))))
 refine AL.any (rs := [2]) (by kernel_rfl) (by decide) ?_
 refine ALs.cons (i := 2) rfl (Runs.free rfl) rfl rfl ?_ ?_
 ·
  obtain ⟨r1, e1, hm⟩ := bind_some hm
  refine os_con call36 rfl rfl (fun w' s => (ref17_All_con p_s p_p ao1 cap1 ao2 cap2  w' H s.hold h1 hc1 h2 hc2 hG r1 e1)) (fun rr1 H1 hle1 hR1 => ?_)
  obtain ⟨ao3, cap3, rfl, h3, hc3⟩ := hR1
  refine ⟨fun w' s => ((s.select [1, 2] (by decide) rfl).heap hle1), ?_⟩
  refine AL.any (rs := [7]) (by kernel_rfl) (by decide) ?_
  refine ALs.cons (i := 7) rfl (Runs.free rfl) rfl rfl ?_ ?_
  ·
   obtain ⟨x1, e2, hm⟩ := bind_some hm
   obtain ⟨h4, h5, h6, cs1, h7, h8⟩ := h3.get e2 (by decide)
   obtain rfl : cs1 = [(.int .i64 x1.begin.low), (.int .i64 x1.begin.high), (.int .i64 x1.moved.low), (.int .i64 x1.moved.high), (.int .i64 x1.end_.low), (.int .i64 x1.end_.high)] := h7
   refine OQ.step (OV.quiet (ov_indexAddr underlying81 sizeOf80 rfl rfl rfl h4 h5 h6)) ?_
   refine ⟨fun w' s => ((s.select [1, 2] (by decide) rfl).heap hle1), ?_⟩
   refine TQ 8 (by kernel_rfl) rfl (ov_fieldAddrE underlying80 rfl rfl rfl sizeOf38 rfl rfl) ?_
   refine AL.any (rs := [9]) (by kernel_rfl) (by decide) ?_
   refine ALs.cons (i := 9) rfl (Runs.free rfl) rfl rfl ?_ ?_
   ·
    refine OQ.step (OV.quiet (ov_load_elems (vs := [(.int .i64 x1.end_.low), (.int .i64 x1.end_.high)]) isAgg38 sizeOf38 rfl rfl rfl (h8.part 4 2) h6)) ?_
    refine ⟨fun w' s => ((s.select [1, 2] (by decide) rfl).heap hle1), ?_⟩
    refine AL.any (rs := [10]) (by kernel_rfl) (by decide) ?_
    refine ALs.cons0 (i := 10) rfl (Runs.free rfl) rfl ?_ ?_
    ·
     refine os_store (i := 0) (vs := [(.int .i64 x1.end_.low), (.int .i64 x1.end_.high)]) (cs' := [(.int .i64 x1.end_.low), (.int .i64 x1.end_.high)]) sizeOf38 rfl rfl rfl rfl rfl rfl rfl rfl rfl ?_
     refine ⟨fun w' s => ((s.select [1, 2] (by decide) rfl).heap hle1), ?_⟩
     refine AL.done (by kernel_rfl) ?_
     refine tn (WP.ret ?_)
     obtain rfl := Option.some.inj hm
     refine retQ_ret results15 (Res.cell rfl (box_loads (i := 0) isAgg38 sizeOf38 rfl rfl) Res.nil) rfl (fun w' s => ⟨s.below, ?_⟩)
     exact rfl
    exact ALs.nil
   exact ALs.nil
  exact ALs.nil
 exact ALs.nil
theorem ref17_Check_con (p_s : Sequence) (p_p : Plant) (ao1 : Option Addr) (cap1 : Nat) (ao2 : Option Addr) (cap2 : Nat) (w : World) (H : Heap) (hH : Le H (hp w)) (h1 : SL H encStep ao1 p_s.steps) (hc1 : p_s.steps.length ≤ cap1) (h2 : SL H encTravel ao2 p_p.travels) (hc2 : p_p.travels.length ≤ cap2) (hG : Glob H) (r : Int) (hm : ref17_Check p_s p_p = some r) :
  Con prog 5 [(.agg #[(.int .i64 p_s.actuators), (.slice ao1 p_s.steps.length cap1)]), (.agg #[(.slice ao2 p_p.travels.length cap2)])] w H (fun v _ => v = (.int .i64 r)) := by
 unfold ref17_Check at hm
 refine con_of hH func5 rfl 52 ntmps5 rfl ?_
 refine WP.seq (WP.region ?_)
 refine ws rfl (os_box (cs := [(.int .i64 p_s.actuators), (.slice ao1 p_s.steps.length cap1)]) rfl rfl rfl (fun b1 => ?_))
 refine ws rfl (os_box (cs := [(.slice ao2 p_p.travels.length cap2)]) rfl rfl rfl (fun b2 => ?_))
 refine Va rfl (WL.nil (tn (WP.seq (WP.seq (WP.region (V rfl (ov_load_whole (i := 1) isAgg24 sizeOf24 rfl rfl rfl rfl) ?_))))))
 obtain ⟨r1, e1, hm⟩ := bind_some hm
 refine wo rfl (oq_con (r := (.int .i64 r1)) call13 rfl rfl (fun w' s => ⟨_, (ref14_Check_con p_s ao1 cap1  w' H s.hold h1 hc1 hG r1 e1)⟩)) ?_
 refine Va rfl (WL.nil (tn (WP.seq (WP.region (Vm rfl (V rfl (ov_neq rfl rfl rfl) (WL.nil (tn ?_))))))))
 refine WP.cond rfl (fun hc3 => ?_) (fun hc3 => ?_)
 ·
  replace hm := ite_t hc3 hm
  refine WP.seq (WP.region (Vm rfl (Va rfl (WL.nil (tn (WP.ret (then_ret ?_)))))))
  obtain rfl := Option.some.inj hm
  refine retQ_ret results5 (Res.tmp rfl Res.nil) rfl (fun w' s => ⟨s.below, ?_⟩)
  exact rfl
 replace hm := ite_f hc3 hm
 refine WP.skip (tn (WP.seq (WP.seq (WP.region (V rfl (ov_fieldAddr underlying27 rfl rfl rfl sizeOf25 rfl rfl) (Vl 0 isAgg25 rfl (V rfl (ov_len_slice underlying25 rfl rfl) (V rfl (ov_fieldAddr underlying24 rfl rfl rfl sizeOf3 rfl rfl) (Vl 1 isAgg3 rfl (V rfl (ov_neq rfl rfl rfl) (WL.nil (tn ?_))))))))))))
 refine WP.cond rfl (fun hc4 => ?_) (fun hc4 => ?_)
 ·
  replace hm := ite_t hc4 hm
  refine WP.seq (WP.region (Va rfl (WL.nil (tn (WP.ret (then_ret ?_))))))
  obtain rfl := Option.some.inj hm
  refine retQ_ret results5 (Res.tmp rfl Res.nil) rfl (fun w' s => ⟨s.below, ?_⟩)
  exact rfl
 replace hm := ite_f hc4 hm
 refine WP.skip (tn ?_)
 obtain ⟨k1, hk1, hm⟩ := joinK_some hm
 refine WP.seq_join (fun g' S' => Sub [(2, (pB b1 0)), (3, (pB b2 0)), (1000000007, (.bool false))] g' ∧ (∀ w', S' w' → St w H [.blk b2 27 [(.slice ao2 p_p.travels.length cap2)], .blk b1 24 [(.int .i64 p_s.actuators), (.slice ao1 p_s.steps.length cap1)]] H w') ∧ k1 = some r) ?_ ?_
 ·
  refine WP.seq (WP.region (Va rfl (WL.nil (tn (WP.block ?_)))))
  refine WP.loop (fun m1 g' S' => ∃ (i1 : Int), Sub [(2, (pB b1 0)), (3, (pB b2 0)), (6, (.int .i64 i1)), (1000000007, (.bool false))] g' ∧ (∀ w', S' w' → St w H [.blk b2 27 [(.slice ao2 p_p.travels.length cap2)], .blk b1 24 [(.int .i64 p_s.actuators), (.slice ao1 p_s.steps.length cap1)]] H w') ∧ ref17_Check_loop1 p_p k1 m1 i1 = some r) ((Int.toNat ((p_p.travels.length : Int) - 0) + 1)) ⟨0, (Sub.all rfl), fun w' s => s, hm⟩ ?_ ?_
  ·
   rintro g' S' ⟨_, _, _, hm⟩
   exact none_some hm
  rintro m1 g' S' ⟨i1, hsub1, hS1, hm⟩
  refine WP.sub hsub1 (WP.weaken hS1 ?_)
  rw [ref17_Check_loop1] at hm
  refine WP.seq (WP.seq (WP.region (Vm rfl (V rfl (ov_fieldAddr underlying27 rfl rfl rfl sizeOf25 rfl rfl) (Vl 0 isAgg25 rfl (V rfl (ov_len_slice underlying25 rfl rfl) (V rfl (ov_lss rfl rfl rfl) (WL.nil (tn ?_)))))))))
  refine WP.cond rfl (fun hc5 => ?_) (fun hc5 => ?_)
  ·
   replace hm := ite_t hc5 hm
   refine WP.skip (tn (WP.seq (WP.block (WP.seq (WP.seq (WP.region (V rfl (ov_fieldAddr underlying27 rfl rfl rfl sizeOf25 rfl rfl) (Vl 0 isAgg25 rfl (Vm rfl ?_)))))))))
   obtain ⟨x1, e2, hm⟩ := bind_some hm
   obtain ⟨h3, h4, h5, cs1, h6, h7⟩ := h2.get e2 (by decide)
   obtain rfl : cs1 = [(.int .i64 x1.out.low), (.int .i64 x1.out.high), (.int .i64 x1.in_.low), (.int .i64 x1.in_.high)] := h6
   refine V rfl (ov_indexAddr underlying25 sizeOf51 rfl rfl rfl h3 h4 h5) (V rfl (ov_fieldAddrE underlying51 rfl rfl rfl sizeOf38 rfl rfl) ?_)
   refine V rfl (ov_load_elems (vs := [(.int .i64 x1.out.low), (.int .i64 x1.out.high)]) isAgg38 sizeOf38 rfl rfl rfl (h7.part 0 2) h5) ?_
   obtain ⟨r2, e3, hm⟩ := bind_some hm
   refine wo rfl (oq_con (r := (.int .i64 r2)) call14 rfl rfl (fun w' s => ⟨_, (ref03_Check_con x1.out  w' H s.hold hG r2 e3)⟩)) ?_
   refine Va rfl (WL.nil (tn (WP.seq (WP.region (Vm rfl (V rfl (ov_neq rfl rfl rfl) (WL.nil (tn ?_))))))))
   refine WP.cond rfl (fun hc6 => ?_) (fun hc6 => ?_)
   ·
    replace hm := ite_t hc6 hm
    refine WP.seq (WP.region (Vm rfl (Va rfl (WL.nil (tn (WP.ret (then_ret (block_ret (then_ret (then_ret (block_ret (then_ret ?_))))))))))))
    obtain rfl := Option.some.inj hm
    refine retQ_ret results5 (Res.tmp rfl Res.nil) rfl (fun w' s => ⟨s.below, ?_⟩)
    exact rfl
   replace hm := ite_f hc6 hm
   refine WP.skip (tn (WP.seq (WP.region (V rfl (ov_fieldAddr underlying27 rfl rfl rfl sizeOf25 rfl rfl) (Vl 0 isAgg25 rfl (Vm rfl ?_))))))
   obtain ⟨x2, e4, hm⟩ := bind_some hm
   obtain ⟨h8, h9, h10, cs2, h11, h12⟩ := h2.get e4 (by decide)
   obtain rfl : cs2 = [(.int .i64 x2.out.low), (.int .i64 x2.out.high), (.int .i64 x2.in_.low), (.int .i64 x2.in_.high)] := h11
   refine V rfl (ov_indexAddr underlying25 sizeOf51 rfl rfl rfl h8 h9 h10) (V rfl (ov_fieldAddrE underlying51 rfl rfl rfl sizeOf38 rfl rfl) ?_)
   refine V rfl (ov_load_elems (vs := [(.int .i64 x2.in_.low), (.int .i64 x2.in_.high)]) isAgg38 sizeOf38 rfl rfl rfl (h12.part 2 2) h10) ?_
   obtain ⟨r3, e5, hm⟩ := bind_some hm
   refine wo rfl (oq_con (r := (.int .i64 r3)) call14 rfl rfl (fun w' s => ⟨_, (ref03_Check_con x2.in_  w' H s.hold hG r3 e5)⟩)) ?_
   refine Va rfl (WL.nil (tn (WP.seq (WP.region (Vm rfl (V rfl (ov_neq rfl rfl rfl) (WL.nil (tn ?_))))))))
   refine WP.cond rfl (fun hc7 => ?_) (fun hc7 => ?_)
   ·
    replace hm := ite_t hc7 hm
    refine WP.seq (WP.region (Vm rfl (Va rfl (WL.nil (tn (WP.ret (block_ret (then_ret (then_ret (block_ret (then_ret ?_)))))))))))
    obtain rfl := Option.some.inj hm
    refine retQ_ret results5 (Res.tmp rfl Res.nil) rfl (fun w' s => ⟨s.below, ?_⟩)
    exact rfl
   replace hm := ite_f hc7 hm
   refine WP.skip (bn (tn (WP.region (Vm rfl (V rfl (ov_add rfl rfl rfl) (Va rfl (WL.nil (tn ?_))))))))
   exact ⟨(IntKind.wrap .i64 (i1 + 1)), (Sub.all rfl), fun w' s => s, hm⟩
  replace hm := ite_f hc5 hm
  refine WP.exit (then_exit (then_exit (block_here (tn ?_))))
  exact ⟨(Sub.all rfl), fun w' s => s, hm⟩
 rintro g' S' ⟨hsub2, hS2, hm⟩
 refine WP.sub hsub2 (WP.weaken hS2 ?_)
 replace hm := hk1.symm.trans hm
 refine WP.seq (WP.seq (WP.region (V rfl (ov_load_whole (i := 1) isAgg24 sizeOf24 rfl rfl rfl rfl) (V rfl (ov_load_whole (i := 0) isAgg27 sizeOf27 rfl rfl rfl rfl) ?_))))
 obtain ⟨r4, e6, hm⟩ := bind_some hm
 refine wo rfl (oq_con (r := (.agg #[(.int .i64 r4.low), (.int .i64 r4.high)])) call15 rfl rfl (fun w' s => ⟨_, (ref17_Whole_con p_s p_p ao1 cap1 ao2 cap2  w' H s.hold h1 hc1 h2 hc2 hG r4 e6)⟩)) ?_
 refine V rfl (ov_field (cs := [(.int .i64 r4.low), (.int .i64 r4.high)]) (r := (.int .i64 r4.high)) rfl rfl (fun _ => by kernel_rfl)) (V rfl (ov_gtr rfl rfl rfl) (WL.nil (tn ?_)))
 refine WP.cond rfl (fun hc8 => ?_) (fun hc8 => ?_)
 ·
  replace hm := ite_t hc8 hm
  refine WP.seq (WP.region (Va rfl (WL.nil (tn (WP.ret (then_ret ?_))))))
  obtain rfl := Option.some.inj hm
  refine retQ_ret results5 (Res.tmp rfl Res.nil) rfl (fun w' s => ⟨s.below, ?_⟩)
  exact rfl
 replace hm := ite_f hc8 hm
 refine WP.skip (tn (WP.seq (WP.region (Va rfl (WL.nil (tn (WP.ret ?_)))))))
 obtain rfl := Option.some.inj hm
 refine retQ_ret results5 (Res.tmp rfl Res.nil) rfl (fun w' s => ⟨s.below, ?_⟩)
 exact rfl
theorem ref03_Has_con (p_a : Span) (p_t : Int) (w : World) (H : Heap) (hH : Le H (hp w)) (hG : Glob H) (r : Bool) (hm : ref03_Has p_a p_t = some r) :
  Con prog 16 [(.agg #[(.int .i64 p_a.low), (.int .i64 p_a.high)]), (.int .i64 p_t)] w H (fun v _ => v = (.bool r)) := by
 unfold ref03_Has at hm
 refine con_of hH func16 rfl 15 ntmps16 rfl ?_
 refine WP.seq (WP.region ?_)
 refine ws rfl (os_box (cs := [(.int .i64 p_a.low), (.int .i64 p_a.high)]) rfl rfl rfl (fun b1 => ?_))
 refine Va rfl (WL.nil (tn (WP.seq (WP.region (Vm rfl (V rfl (ov_fieldAddr underlying38 rfl rfl rfl sizeOf3 rfl rfl) (Vl 0 isAgg3 rfl (V rfl (ov_geq rfl rfl rfl) (Vm rfl ?_)))))))))
 refine WL.cut_bool 5 14 (x := ((decide (p_t ≥ p_a.low)) && (decide (p_t ≤ p_a.high)))) ?_ ?_
 ·
  rcases Bool.eq_false_or_eq_true (decide (p_t ≥ p_a.low)) with hc1 | hc1
  ·
   refine wy hc1 rfl (ov_move rfl rfl) ?_
   refine wy hc1 rfl (ov_fieldAddr underlying38 rfl rfl rfl sizeOf3 rfl rfl) ?_
   refine wy hc1 rfl (ov_load_box (i := 0) isAgg3 rfl rfl rfl rfl) ?_
   refine wy hc1 rfl (ov_leq rfl rfl rfl) ?_
   refine V rfl (ov_pick_true rfl (guard_eq rfl hc1) rfl) ?_
   exact WL.nil ⟨Sub.cons' rfl (congrArg Value.bool (andT hc1)) (Sub.dropn 5 rfl), fun _ s => s⟩
  refine Vi rfl (Idle.no rfl rfl rfl hc1) (Vi rfl (Idle.no rfl rfl rfl hc1) (Vi rfl (Idle.no rfl rfl rfl hc1) (Vi rfl (Idle.no rfl rfl rfl hc1) (V rfl (ov_pick_false rfl (guard_eq rfl hc1) rfl) ?_))))
  exact WL.nil ⟨Sub.cons' rfl (congrArg Value.bool (andF hc1)) (Sub.dropn 5 rfl), fun _ s => s⟩
 refine Va rfl (WL.nil (tn (WP.ret ?_)))
 obtain rfl := Option.some.inj hm
 refine retQ_ret results16 (Res.tmp rfl Res.nil) rfl (fun w' s => ⟨s.below, ?_⟩)
 exact rfl
theorem ref17_Chosen_con (p_s : Sequence) (p_p : Plant) (p_times : (List (List Int))) (ao1 : Option Addr) (cap1 : Nat) (ao2 : Option Addr) (cap2 : Nat) (ao3 : Option Addr) (cap3 : Nat) (w : World) (H : Heap) (hH : Le H (hp w)) (h1 : SL H encStep ao1 p_s.steps) (hc1 : p_s.steps.length ≤ cap1) (h2 : SL H encTravel ao2 p_p.travels) (hc2 : p_p.travels.length ≤ cap2) (h3 : SL H (encSl (encInt .i64)) ao3 p_times) (hc3 : p_times.length ≤ cap3) (hG : Glob H) (r : Int) (hm : ref17_Chosen p_s p_p p_times = some r) :
  Con prog 6 [(.agg #[(.int .i64 p_s.actuators), (.slice ao1 p_s.steps.length cap1)]), (.agg #[(.slice ao2 p_p.travels.length cap2)]), (.slice ao3 p_times.length cap3)] w H (fun v _ => v = (.int .i64 r)) := by
 unfold ref17_Chosen at hm
 refine con_of hH func6 rfl 57 ntmps6 rfl ?_
 refine WP.seq (WP.region ?_)
 refine ws rfl (os_box (cs := [(.int .i64 p_s.actuators), (.slice ao1 p_s.steps.length cap1)]) rfl rfl rfl (fun b1 => ?_))
 refine ws rfl (os_box (cs := [(.slice ao2 p_p.travels.length cap2)]) rfl rfl rfl (fun b2 => ?_))
 refine Va rfl (WL.nil (tn (WP.seq (WP.seq (WP.region (Vm rfl (V rfl (ov_len_slice underlying28 rfl rfl) (V rfl (ov_fieldAddr underlying24 rfl rfl rfl sizeOf22 rfl rfl) (Vl 1 isAgg22 rfl (V rfl (ov_len_slice underlying22 rfl rfl) (V rfl (ov_neq rfl rfl rfl) (WL.nil (tn ?_)))))))))))))
 refine WP.cond rfl (fun hc4 => ?_) (fun hc4 => ?_)
 ·
  replace hm := ite_t hc4 hm
  refine WP.seq (WP.region (Va rfl (WL.nil (tn (WP.ret (then_ret ?_))))))
  obtain rfl := Option.some.inj hm
  refine retQ_ret results6 (Res.tmp rfl Res.nil) rfl (fun w' s => ⟨s.below, ?_⟩)
  exact rfl
 replace hm := ite_f hc4 hm
 refine WP.skip (tn ?_)
 obtain ⟨k1, hk1, hm⟩ := joinK_some hm
 refine WP.seq_join (fun g' S' => Sub [(1000000007, (.bool false))] g' ∧ (∀ w', S' w' → St w H [] H w') ∧ k1 = some r) ?_ ?_
 ·
  refine WP.seq (WP.region (Va rfl (WL.nil (tn (WP.block ?_)))))
  refine WP.loop (fun m1 g' S' => ∃ (i1 : Int), Sub [(2, (.slice ao3 p_times.length cap3)), (3, (pB b1 0)), (4, (pB b2 0)), (7, (.int .i64 i1)), (1000000007, (.bool false))] g' ∧ (∀ w', S' w' → St w H [.blk b2 27 [(.slice ao2 p_p.travels.length cap2)], .blk b1 24 [(.int .i64 p_s.actuators), (.slice ao1 p_s.steps.length cap1)]] H w') ∧ ref17_Chosen_loop1 p_s p_times k1 p_p m1 i1 = some r) ((Int.toNat ((p_times.length : Int) - 0) + 1)) ⟨0, (Sub.all rfl), fun w' s => s, hm⟩ ?_ ?_
  ·
   rintro g' S' ⟨_, _, _, hm⟩
   exact none_some hm
  rintro m1 g' S' ⟨i1, hsub1, hS1, hm⟩
  refine WP.sub hsub1 (WP.weaken hS1 ?_)
  rw [ref17_Chosen_loop1] at hm
  refine WP.seq (WP.seq (WP.region (Vm rfl (Vm rfl (V rfl (ov_len_slice underlying28 rfl rfl) (V rfl (ov_lss rfl rfl rfl) (WL.nil (tn ?_))))))))
  refine WP.cond rfl (fun hc5 => ?_) (fun hc5 => ?_)
  ·
   replace hm := ite_t hc5 hm
   refine WP.skip (tn ?_)
   obtain ⟨k2, hk2, hm⟩ := joinK_some hm
   refine WP.seq_join (fun g' S' => Sub [(2, (.slice ao3 p_times.length cap3)), (3, (pB b1 0)), (4, (pB b2 0)), (7, (.int .i64 i1)), (1000000007, (.bool false))] g' ∧ (∀ w', S' w' → St w H [.blk b2 27 [(.slice ao2 p_p.travels.length cap2)], .blk b1 24 [(.int .i64 p_s.actuators), (.slice ao1 p_s.steps.length cap1)]] H w') ∧ k2 = some r) ?_ ?_
   ·
    refine WP.block (WP.seq (WP.region (V rfl (ov_fieldAddr underlying24 rfl rfl rfl sizeOf22 rfl rfl) (Vl 1 isAgg22 rfl (Vm rfl ?_)))))
    obtain ⟨x1, e1, hm⟩ := bind_some hm
    obtain ⟨h5, h6, h7, cs1, h8, h9⟩ := h1.get e1 (by decide)
    obtain ⟨ao4, cap4, rfl, h4, hc6⟩ := h8
    refine V rfl (ov_indexAddr underlying22 sizeOf55 rfl rfl rfl h5 h6 h7) (V rfl (ov_fieldAddrE underlying55 rfl rfl rfl sizeOf53 rfl rfl) ?_)
    refine V rfl (ov_load_elem (v := (.slice ao4 x1.strokes.length cap4)) isAgg53 rfl rfl (h9.one (off := 0) rfl)) (Va rfl (WL.nil (tn (WP.seq (WP.seq (WP.region (Vm rfl (Vm rfl ?_))))))))
    obtain ⟨x2, e2, hm⟩ := bind_some hm
    obtain ⟨h11, h12, h13, cs2, h14, h15⟩ := h3.get e2 (by decide)
    obtain ⟨ao5, cap5, rfl, h10, hc7⟩ := h14
    refine V rfl (ov_indexAddr underlying28 sizeOf33 rfl rfl rfl h11 h12 h13) (V rfl (ov_load_elem (v := (.slice ao5 x2.length cap5)) isAgg33 rfl rfl h15) (V rfl (ov_len_slice underlying33 rfl rfl) (Vm rfl (V rfl (ov_len_slice underlying53 rfl rfl) (V rfl (ov_neq rfl rfl rfl) (WL.nil (tn ?_)))))))
    refine WP.cond rfl (fun hc8 => ?_) (fun hc8 => ?_)
    ·
     replace hm := ite_t hc8 hm
     refine WP.seq (WP.region (Va rfl (WL.nil (tn (WP.ret (then_ret (block_ret (then_ret (then_ret (block_ret (then_ret ?_)))))))))))
     obtain rfl := Option.some.inj hm
     refine retQ_ret results6 (Res.tmp rfl Res.nil) rfl (fun w' s => ⟨s.below, ?_⟩)
     exact rfl
    replace hm := ite_f hc8 hm
    refine WP.skip (tn (WP.seq (WP.region (Va rfl (WL.nil (tn (WP.block ?_)))))))
    refine WP.loop (fun m2 g' S' => ∃ (i2 : Int), Sub [(2, (.slice ao3 p_times.length cap3)), (3, (pB b1 0)), (4, (pB b2 0)), (7, (.int .i64 i1)), (8, (.slice ao4 x1.strokes.length cap4)), (9, (.int .i64 i2)), (1000000007, (.bool false))] g' ∧ (∀ w', S' w' → St w H [.blk b2 27 [(.slice ao2 p_p.travels.length cap2)], .blk b1 24 [(.int .i64 p_s.actuators), (.slice ao1 p_s.steps.length cap1)]] H w') ∧ ref17_Chosen_loop2 p_p p_times i1 k2 x1 m2 i2 = some r) ((Int.toNat ((x1.strokes.length : Int) - 0) + 1)) ⟨0, (Sub.all rfl), fun w' s => s, hm⟩ ?_ ?_
    ·
     rintro g' S' ⟨_, _, _, hm⟩
     exact none_some hm
    rintro m2 g' S' ⟨i2, hsub2, hS2, hm⟩
    refine WP.sub hsub2 (WP.weaken hS2 ?_)
    rw [ref17_Chosen_loop2] at hm
    refine WP.seq (WP.seq (WP.region (Vm rfl (Vm rfl (V rfl (ov_len_slice underlying53 rfl rfl) (V rfl (ov_lss rfl rfl rfl) (WL.nil (tn ?_))))))))
    refine WP.cond rfl (fun hc9 => ?_) (fun hc9 => ?_)
    ·
     replace hm := ite_t hc9 hm
     refine WP.skip (tn (WP.seq (WP.block (WP.seq ?_))))
     refine WP.region_draws (by kernel_rfl) (by kernel_rfl) (fun _ s => s.drew) ?_
     refine qf rfl (ov_load_whole (i := 0) isAgg27 sizeOf27 rfl rfl rfl rfl) ?_
     refine qf rfl (ov_move rfl rfl) ?_
     refine qf rfl (ov_move rfl rfl) ?_
     obtain ⟨x3, e3, hm⟩ := bind_some hm
     obtain ⟨h16, h17, h18, cs3, h19, h20⟩ := h4.get e3 (by decide)
     obtain rfl : cs3 = [(.int .i64 x3.actuator), (.bool x3.out)] := h19
     refine qf rfl (ov_indexAddr underlying53 sizeOf59 rfl rfl rfl h16 h17 h18) ?_
     refine qf rfl (ov_load_elems (vs := [(.int .i64 x3.actuator), (.bool x3.out)]) isAgg59 sizeOf59 rfl rfl rfl h20 h18) ?_
     obtain ⟨r1, e4, hm⟩ := bind_some hm
     refine QL.quiet (Runs.free rfl) rfl rfl (oq_con (r := (.agg #[(.int .i64 r1.low), (.int .i64 r1.high)])) call17 rfl rfl (fun w' s => ⟨_, (ref17_Way_con p_p x3 ao2 cap2  w' H s.hold h2 hc2 hG r1 e4)⟩)) ?_
     refine qf rfl (ov_move rfl rfl) ?_
     refine qf rfl (ov_move rfl rfl) ?_
     obtain ⟨x4, e5, hm⟩ := bind_some hm
     obtain ⟨h22, h23, h24, cs4, h25, h26⟩ := h3.get e5 (by decide)
     obtain ⟨ao6, cap6, rfl, h21, hc10⟩ := h25
     refine qf rfl (ov_indexAddr underlying28 sizeOf33 rfl rfl rfl h22 h23 h24) ?_
     refine qf rfl (ov_load_elem (v := (.slice ao6 x4.length cap6)) isAgg33 rfl rfl h26) ?_
     refine qf rfl (ov_move rfl rfl) ?_
     obtain ⟨x5, e6, hm⟩ := bind_some hm
     obtain ⟨h27, h28, h29, cs5, h30, h31⟩ := h21.get e6 (by decide)
     obtain rfl : cs5 = [(.int .i64 x5)] := h30
     refine qf rfl (ov_indexAddr underlying33 sizeOf3 rfl rfl rfl h27 h28 h29) ?_
     refine qf rfl (ov_load_elem (v := (.int .i64 x5)) isAgg3 rfl rfl h31) ?_
     obtain ⟨r2, e7, hm⟩ := bind_some hm
     refine QL.quiet (Runs.free rfl) rfl rfl (oq_con (r := (.bool r2)) call16 rfl rfl (fun w' s => ⟨_, (ref03_Has_con r1 x5  w' H s.hold hG r2 e7)⟩)) ?_
     refine qf rfl (ov_not rfl rfl) ?_
     refine QL.nil ?_
     refine tn ?_
     refine WP.cond rfl (fun hc11 => ?_) (fun hc11 => ?_)
     ·
      replace hm := ite_t hc11 hm
      refine WP.seq (WP.region (Va rfl (WL.nil (tn (WP.ret (block_ret (then_ret (then_ret (block_ret (block_ret (then_ret (then_ret (block_ret ?_)))))))))))))
      refine then_ret ?_
      obtain rfl := Option.some.inj hm
      refine retQ_ret results6 (Res.tmp rfl Res.nil) rfl (fun w' s => ⟨s.below, ?_⟩)
      exact rfl
     replace hm := ite_f hc11 hm
     refine WP.skip (bn (tn (WP.region (Vm rfl (V rfl (ov_add rfl rfl rfl) (Va rfl (WL.nil (tn ?_))))))))
     exact ⟨(IntKind.wrap .i64 (i2 + 1)), (Sub.all rfl), fun w' s => s, hm⟩
    replace hm := ite_f hc9 hm
    refine WP.exit (then_exit (then_exit (block_here (bn (tn ?_)))))
    exact ⟨(Sub.all rfl), fun w' s => s, hm⟩
   rintro g' S' ⟨hsub3, hS3, hm⟩
   refine WP.sub hsub3 (WP.weaken hS3 ?_)
   replace hm := hk2.symm.trans hm
   refine WP.region (Vm rfl (V rfl (ov_add rfl rfl rfl) (Va rfl (WL.nil (tn ?_)))))
   exact ⟨(IntKind.wrap .i64 (i1 + 1)), (Sub.all rfl), fun w' s => s, hm⟩
  replace hm := ite_f hc5 hm
  refine WP.exit (then_exit (then_exit (block_here (tn ?_))))
  exact ⟨(Sub.all rfl), fun w' s => (s.select [] (by decide) rfl), hm⟩
 rintro g' S' ⟨hsub4, hS4, hm⟩
 refine WP.sub hsub4 (WP.weaken hS4 ?_)
 replace hm := hk1.symm.trans hm
 refine WP.seq (WP.region (Va rfl (WL.nil (tn (WP.ret ?_)))))
 obtain rfl := Option.some.inj hm
 refine retQ_ret results6 (Res.tmp rfl Res.nil) rfl (fun w' s => ⟨s.below, ?_⟩)
 exact rfl
theorem schedule_later_con (p_a : Span) (p_b : Span) (w : World) (H : Heap) (hH : Le H (hp w)) (hG : Glob H) (r : Span) (hm : schedule_later p_a p_b = some r) :
  Con prog 80 [(.agg #[(.int .i64 p_a.low), (.int .i64 p_a.high)]), (.agg #[(.int .i64 p_b.low), (.int .i64 p_b.high)])] w H (fun v _ => v = (.agg #[(.int .i64 r.low), (.int .i64 r.high)])) := by
 unfold schedule_later at hm
 refine con_of hH func80 rfl 16 ntmps80 rfl ?_
 refine WP.seq (WP.region ?_)
 refine ws rfl (os_box (cs := [(.int .i64 p_a.low), (.int .i64 p_a.high)]) rfl rfl rfl (fun b1 => ?_))
 refine ws rfl (os_box (cs := [(.int .i64 p_b.low), (.int .i64 p_b.high)]) rfl rfl rfl (fun b2 => ?_))
 refine ws rfl (os_alloc (cs := [(.int .i64 0), (.int .i64 0)]) zeroValue38 rfl rfl (fun b3 => ?_))
 refine WL.nil (tn (WP.seq (WP.region (V rfl (ov_fieldAddr underlying38 rfl rfl rfl sizeOf3 rfl rfl) (Vl 2 isAgg3 rfl (V rfl (ov_fieldAddr underlying38 rfl rfl rfl sizeOf3 rfl rfl) (Vl 1 isAgg3 rfl (V rfl (ov_add rfl rfl rfl) (V rfl (ov_fieldAddr underlying38 rfl rfl rfl sizeOf3 rfl rfl) (Vl 2 isAgg3 rfl (V rfl (ov_fieldAddr underlying38 rfl rfl rfl sizeOf3 rfl rfl) (Vl 1 isAgg3 rfl (V rfl (ov_add rfl rfl rfl) ?_)))))))))))))
 refine V rfl (ov_build (r := (.agg #[(.int .i64 (IntKind.wrap .i64 (p_a.low + p_b.low))), (.int .i64 (IntKind.wrap .i64 (p_a.high + p_b.high)))])) rfl rfl (fun _ => by kernel_rfl)) ?_
 refine ws0 rfl (os_store (i := 0) (vs := [(.int .i64 (IntKind.wrap .i64 (p_a.low + p_b.low))), (.int .i64 (IntKind.wrap .i64 (p_a.high + p_b.high)))]) (cs' := [(.int .i64 (IntKind.wrap .i64 (p_a.low + p_b.low))), (.int .i64 (IntKind.wrap .i64 (p_a.high + p_b.high)))]) sizeOf38 rfl rfl rfl rfl rfl rfl rfl rfl rfl ?_)
 refine WL.nil (tn (WP.ret ?_))
 obtain rfl := Option.some.inj hm
 refine retQ_ret results80 (Res.cell rfl (box_loads (i := 0) isAgg38 sizeOf38 rfl rfl) Res.nil) rfl (fun w' s => ⟨s.below, ?_⟩)
 exact rfl
theorem schedule_way_con (p_p : Plant) (p_x : Stroke) (ao1 : Option Addr) (cap1 : Nat) (w : World) (H : Heap) (hH : Le H (hp w)) (h1 : SL H encTravel ao1 p_p.travels) (hc1 : p_p.travels.length ≤ cap1) (hG : Glob H) (r : Span) (hm : schedule_way p_p p_x = some r) :
  Con prog 23 [(.agg #[(.slice ao1 p_p.travels.length cap1)]), (.agg #[(.int .i64 p_x.actuator), (.bool p_x.out)])] w H (fun v _ => v = (.agg #[(.int .i64 r.low), (.int .i64 r.high)])) := by
 unfold schedule_way at hm
 refine con_of hH func23 rfl 22 ntmps23 rfl ?_
 refine WP.seq (WP.region ?_)
 refine ws rfl (os_box (cs := [(.slice ao1 p_p.travels.length cap1)]) rfl rfl rfl (fun b1 => ?_))
 refine ws rfl (os_box (cs := [(.int .i64 p_x.actuator), (.bool p_x.out)]) rfl rfl rfl (fun b2 => ?_))
 refine ws rfl (os_alloc (cs := [(.int .i64 0), (.int .i64 0)]) zeroValue38 rfl rfl (fun b3 => ?_))
 refine WL.nil (tn (WP.seq (WP.region (Va rfl (WL.nil (tn ?_))))))
 obtain ⟨k1, hk1, hm⟩ := joinK_some hm
 refine WP.seq_join (fun g' S' => ∃ (i1 : Int), Sub [(2, (pB b1 0)), (3, (pB b2 0)), (4, (pB b3 0)), (5, (.int .i64 i1)), (1000000007, (.bool false))] g' ∧ (∀ w', S' w' → St w H [.blk b3 38 [(.int .i64 0), (.int .i64 0)], .blk b2 59 [(.int .i64 p_x.actuator), (.bool p_x.out)], .blk b1 27 [(.slice ao1 p_p.travels.length cap1)]] H w') ∧ k1 i1 = some r) ?_ ?_
 ·
  refine WP.seq (WP.region (V rfl (ov_fieldAddr underlying59 rfl rfl rfl sizeOf4 rfl rfl) (Vl 1 isAgg4 rfl (WL.nil (tn ?_)))))
  refine WP.cond rfl (fun hc2 => ?_) (fun hc2 => ?_)
  ·
   replace hm := ite_t hc2 hm
   refine WP.region (Va rfl (WL.nil (tn ?_)))
   exact ⟨1, (Sub.all rfl), fun w' s => s, hm⟩
  replace hm := ite_f hc2 hm
  refine WP.skip (tn ?_)
  exact ⟨0, (Sub.all rfl), fun w' s => s, hm⟩
 rintro g' S' ⟨i1, hsub1, hS1, hm⟩
 refine WP.sub hsub1 (WP.weaken hS1 ?_)
 replace hm := (congrFun hk1 i1).symm.trans hm
 refine WP.seq (WP.region (V rfl (ov_fieldAddr underlying27 rfl rfl rfl sizeOf25 rfl rfl) (Vl 2 isAgg25 rfl (V rfl (ov_fieldAddr underlying59 rfl rfl rfl sizeOf3 rfl rfl) (Vl 1 isAgg3 rfl ?_)))))
 obtain ⟨x1, e1, hm⟩ := bind_some hm
 obtain ⟨h2, h3, h4, cs1, h5, h6⟩ := h1.get e1 (by decide)
 obtain rfl : cs1 = [(.int .i64 x1.out.low), (.int .i64 x1.out.high), (.int .i64 x1.in_.low), (.int .i64 x1.in_.high)] := h5
 refine V rfl (ov_indexAddr underlying25 sizeOf51 rfl rfl rfl h2 h3 h4) (V rfl (ov_load_elems (vs := [(.int .i64 x1.out.low), (.int .i64 x1.out.high), (.int .i64 x1.in_.low), (.int .i64 x1.in_.high)]) isAgg51 sizeOf51 rfl rfl rfl h6 h4) ?_)
 refine ws rfl (os_alloc (cs := [(.int .i64 0), (.int .i64 0), (.int .i64 0), (.int .i64 0)]) zeroValue51 rfl rfl (fun b4 => ?_))
 refine ws0 rfl (os_store (i := 0) (vs := [(.int .i64 x1.out.low), (.int .i64 x1.out.high), (.int .i64 x1.in_.low), (.int .i64 x1.in_.high)]) (cs' := [(.int .i64 x1.out.low), (.int .i64 x1.out.high), (.int .i64 x1.in_.low), (.int .i64 x1.in_.high)]) sizeOf51 rfl rfl rfl rfl rfl rfl rfl rfl rfl ?_)
 refine WL.nil (tn (WP.seq (WP.region (V rfl (ov_fieldAddr underlying51 rfl rfl rfl sizeOf38 rfl rfl) (V rfl (ov_load_boxes (i := 0) (vs := [(.int .i64 x1.in_.low), (.int .i64 x1.in_.high)]) isAgg38 sizeOf38 rfl rfl rfl rfl (part_of rfl)) (V rfl (ov_fieldAddr underlying51 rfl rfl rfl sizeOf38 rfl rfl) (V rfl (ov_load_boxes (i := 0) (vs := [(.int .i64 x1.out.low), (.int .i64 x1.out.high)]) isAgg38 sizeOf38 rfl rfl rfl rfl (part_of rfl)) (V rfl (ov_build (r := (.agg #[(.int .i64 x1.in_.low), (.int .i64 x1.in_.high), (.int .i64 x1.out.low), (.int .i64 x1.out.high)])) rfl rfl (fun _ => by kernel_rfl)) (Vm rfl ?_)))))))))
 rcases Bool.eq_false_or_eq_true (i1 == 0) with hc3 | hc3
 ·
  replace hm := ite_t hc3 hm
  refine V rfl (ov_index_at (j := 0) (cs := [(.int .i64 x1.in_.low), (.int .i64 x1.in_.high), (.int .i64 x1.out.low), (.int .i64 x1.out.high)]) (r := (.agg #[(.int .i64 x1.in_.low), (.int .i64 x1.in_.high)])) (eq_of_beq hc3) rfl rfl rfl (fun _ => by kernel_rfl)) ?_
  refine ws0 rfl (os_store (i := 1) (vs := [(.int .i64 x1.in_.low), (.int .i64 x1.in_.high)]) (cs' := [(.int .i64 x1.in_.low), (.int .i64 x1.in_.high)]) sizeOf38 rfl rfl rfl rfl rfl rfl rfl rfl rfl ?_)
  refine WL.nil (tn (WP.ret ?_))
  obtain rfl := Option.some.inj hm
  refine retQ_ret results23 (Res.cell rfl (box_loads (i := 1) isAgg38 sizeOf38 rfl rfl) Res.nil) rfl (fun w' s => ⟨s.below, ?_⟩)
  exact rfl
 replace hm := ite_f hc3 hm
 rcases Bool.eq_false_or_eq_true (i1 == 1) with hc4 | hc4
 ·
  replace hm := ite_t hc4 hm
  refine V rfl (ov_index_at (j := 1) (cs := [(.int .i64 x1.in_.low), (.int .i64 x1.in_.high), (.int .i64 x1.out.low), (.int .i64 x1.out.high)]) (r := (.agg #[(.int .i64 x1.out.low), (.int .i64 x1.out.high)])) (eq_of_beq hc4) rfl rfl rfl (fun _ => by kernel_rfl)) ?_
  refine ws0 rfl (os_store (i := 1) (vs := [(.int .i64 x1.out.low), (.int .i64 x1.out.high)]) (cs' := [(.int .i64 x1.out.low), (.int .i64 x1.out.high)]) sizeOf38 rfl rfl rfl rfl rfl rfl rfl rfl rfl ?_)
  refine WL.nil (tn (WP.ret ?_))
  obtain rfl := Option.some.inj hm
  refine retQ_ret results23 (Res.cell rfl (box_loads (i := 1) isAgg38 sizeOf38 rfl rfl) Res.nil) rfl (fun w' s => ⟨s.below, ?_⟩)
  exact rfl
 replace hm := ite_f hc4 hm
 exact (none_some hm).elim
theorem schedule_moves_con (p_p : Plant) (p_x : Step) (ao1 : Option Addr) (cap1 : Nat) (ao2 : Option Addr) (cap2 : Nat) (w : World) (H : Heap) (hH : Le H (hp w)) (h1 : SL H encTravel ao1 p_p.travels) (hc1 : p_p.travels.length ≤ cap1) (h2 : SL H encStroke ao2 p_x.strokes) (hc2 : p_x.strokes.length ≤ cap2) (hG : Glob H) (r : Span) (hm : schedule_moves p_p p_x = some r) :
  Con prog 81 [(.agg #[(.slice ao1 p_p.travels.length cap1)]), (.agg #[(.slice ao2 p_x.strokes.length cap2), (.int .i64 p_x.wait)])] w H (fun v _ => v = (.agg #[(.int .i64 r.low), (.int .i64 r.high)])) := by
 unfold schedule_moves at hm
 refine con_of hH func81 rfl 14 ntmps81 rfl ?_
 refine WP.seq (WP.region ?_)
 refine ws rfl (os_box (cs := [(.slice ao1 p_p.travels.length cap1)]) rfl rfl rfl (fun b1 => ?_))
 refine ws rfl (os_box (cs := [(.slice ao2 p_x.strokes.length cap2), (.int .i64 p_x.wait)]) rfl rfl rfl (fun b2 => ?_))
 refine ws rfl (os_alloc (cs := [(.int .i64 0), (.int .i64 0)]) zeroValue38 rfl rfl (fun b3 => ?_))
 refine WL.nil (tn (WP.seq ?_))
 refine WP.region_any (S₀ := St w H [.blk b2 55 [(.slice ao2 p_x.strokes.length cap2), (.int .i64 p_x.wait)], .blk b1 27 [(.slice ao1 p_p.travels.length cap1)]] H) 10 rfl (by kernel_rfl) (fun w' s => (s.select [1, 2] (by decide) rfl)) (fun _ s => s.drew) ?_
 refine TQ 0 (by kernel_rfl) rfl (ov_fieldAddr underlying55 rfl rfl rfl sizeOf53 rfl rfl) (TQ 1 (by kernel_rfl) rfl (ov_load_box (i := 0) isAgg53 rfl rfl rfl rfl) (TQ 2 (by kernel_rfl) rfl (ov_makeFunc' (first := []) rfl rfl rfl) (TQ 4 (by kernel_rfl) rfl (ov_fieldAddr underlying55 rfl rfl rfl sizeOf53 rfl rfl) (TQ 5 (by kernel_rfl) rfl (ov_load_box (i := 0) isAgg53 rfl rfl rfl rfl) (TQ 6 (by kernel_rfl) rfl (ov_makeFunc' (first := []) rfl rfl rfl) ?_)))))
 refine AL.any (rs := [3]) (by kernel_rfl) (by decide) ?_
 refine ALs.cons (i := 3) rfl (Runs.free rfl) rfl rfl ?_ ?_
 ·
  refine os_inline (cap := []) (vs := [(.slice ao2 p_x.strokes.length cap2), (.func (.func 108) #[] #[(pB b1 0)])]) call107 rfl rfl rfl func107 rfl 21 ntmps107 rfl (fun w' s => ?_)
  refine WP.seq (WP.region (Va rfl (WL.nil (tn (WP.seq (WP.region (Va rfl (WL.nil (tn ?_)))))))))
  obtain ⟨k1, hk1, hm⟩ := joinK_some hm
  refine WP.seq_join (fun g' S' => ∃ (i3 : Int), Sub [(5, (.int .i64 i3)), (1000000007, (.bool false))] g' ∧ (∀ w', S' w' → St w H [.blk b3 38 [(.int .i64 0), (.int .i64 0)], .blk b2 55 [(.slice ao2 p_x.strokes.length cap2), (.int .i64 p_x.wait)], .blk b1 27 [(.slice ao1 p_p.travels.length cap1)]] H w') ∧ k1 i3 = some r) ?_ ?_
  ·
   refine WP.seq (WP.region (Vm rfl (V rfl (ov_len_slice underlying53 rfl rfl) (Vm rfl (WL.nil (tn (WP.block ?_)))))))
   refine WP.loop (fun m1 g' S' => ∃ (i1 : Int) (i2 : Int), Sub [(1, (.func (.func 108) #[] #[(pB b1 0)])), (5, (.int .i64 i1)), (8, (.slice ao2 p_x.strokes.length cap2)), (9, (.int .i64 (p_x.strokes.length : Int))), (10, (.int .i64 i2)), (1000000007, (.bool false))] g' ∧ (∀ w', S' w' → St w H [.blk b3 38 [(.int .i64 0), (.int .i64 0)], .blk b2 55 [(.slice ao2 p_x.strokes.length cap2), (.int .i64 p_x.wait)], .blk b1 27 [(.slice ao1 p_p.travels.length cap1)]] H w') ∧ schedule_moves_loop1 p_p p_x k1 m1 i1 i2 = some r) ((Int.toNat ((p_x.strokes.length : Int) - 0) + 1)) ⟨0, 0, (Sub.all rfl), fun w' s => s, hm⟩ ?_ ?_
   ·
    rintro g' S' ⟨_, _, _, _, hm⟩
    exact none_some hm
   rintro m1 g' S' ⟨i1, i2, hsub1, hS1, hm⟩
   refine WP.sub hsub1 (WP.weaken hS1 ?_)
   rw [schedule_moves_loop1] at hm
   refine WP.seq (WP.region (V rfl (ov_lss rfl rfl rfl) (WL.nil (tn (WP.seq ?_)))))
   refine WP.cond rfl (fun hc3 => ?_) (fun hc3 => ?_)
   ·
    replace hm := ite_t hc3 hm
    refine WP.skip (tn (WP.seq (WP.block (WP.seq (WP.region ?_)))))
    obtain ⟨x1, e1, hm⟩ := bind_some hm
    obtain ⟨h3, h4, h5, cs1, h6, h7⟩ := h2.get e1 (by decide)
    obtain rfl : cs1 = [(.int .i64 x1.actuator), (.bool x1.out)] := h6
    refine V rfl (ov_indexAddr underlying53 sizeOf59 rfl rfl rfl h3 h4 h5) (V rfl (ov_load_elems (vs := [(.int .i64 x1.actuator), (.bool x1.out)]) isAgg59 sizeOf59 rfl rfl rfl h7 h5) ?_)
    refine ws rfl (os_alloc (cs := [(.int .i64 0), (.bool false)]) zeroValue59 rfl rfl (fun b4 => ?_))
    refine ws0 rfl (os_store (i := 0) (vs := [(.int .i64 x1.actuator), (.bool x1.out)]) (cs' := [(.int .i64 x1.actuator), (.bool x1.out)]) sizeOf59 rfl rfl rfl rfl rfl rfl rfl rfl rfl ?_)
    refine WL.nil (tn (WP.region (Vm rfl (Vm rfl (V rfl (ov_load_whole (i := 0) isAgg59 sizeOf59 rfl rfl rfl rfl) ?_)))))
    refine ws rfl (os_inline (cap := [(pB b1 0)]) (vs := [(.agg #[(.int .i64 x1.actuator), (.bool x1.out)])]) call108 rfl rfl rfl func108 rfl 8 ntmps108 rfl (fun w' s => ?_))
    refine WP.seq (WP.region ?_)
    refine ws rfl (os_box (cs := [(.int .i64 x1.actuator), (.bool x1.out)]) rfl rfl rfl (fun b5 => ?_))
    refine Va rfl (WL.nil (tn (WP.seq (WP.region (V rfl (ov_load_whole (i := 4) isAgg27 sizeOf27 rfl rfl rfl rfl) (V rfl (ov_load_whole (i := 0) isAgg59 sizeOf59 rfl rfl rfl rfl) ?_))))))
    obtain ⟨r1, e2, hm⟩ := bind_some hm
    refine wo rfl (oq_con (r := (.agg #[(.int .i64 r1.low), (.int .i64 r1.high)])) call23 rfl rfl (fun w' s => ⟨_, (schedule_way_con p_p x1 ao1 cap1  w' H s.hold h1 hc1 hG r1 e2)⟩)) ?_
    refine V rfl (ov_field (cs := [(.int .i64 r1.low), (.int .i64 r1.high)]) (r := (.int .i64 r1.low)) rfl rfl (fun _ => by kernel_rfl)) (Va rfl (WL.nil (tn (WP.ret ?_))))
    refine retQ_ret (v := (.int .i64 r1.low)) results108 (Res.tmp rfl Res.nil) rfl (fun w' s => ⟨_, ?_, s⟩)
    refine V rfl (ov_max rfl rfl rfl) (Va rfl (WL.nil (bn (tn (WP.region (V rfl (ov_add rfl rfl rfl) (Vm rfl (WL.nil (tn ?_)))))))))
    exact ⟨(if r1.low > i1 then r1.low else i1), (IntKind.wrap .i64 (i2 + 1)), (Sub.all rfl), fun w' s => (s.select [2, 3, 4] (by decide) rfl), hm⟩
   replace hm := ite_f hc3 hm
   refine WP.exit (then_exit (then_exit (block_here (tn ?_))))
   exact ⟨i1, (Sub.all rfl), fun w' s => s, hm⟩
  rintro g' S' ⟨i3, hsub2, hS2, hm⟩
  refine WP.sub hsub2 (WP.weaken hS2 ?_)
  replace hm := (congrFun hk1 i3).symm.trans hm
  refine WP.seq (WP.region (Vm rfl (Va rfl (WL.nil (tn (WP.ret ?_))))))
  refine retQ_ret (v := (.int .i64 i3)) results107 (Res.tmp rfl Res.nil) rfl (fun w' s => ⟨_, ?_, s⟩)
  refine ⟨fun w' s => (s.select [1, 2] (by decide) rfl), ?_⟩
  refine AL.any (rs := [7]) (by kernel_rfl) (by decide) ?_
  refine ALs.cons (i := 7) rfl (Runs.free rfl) rfl rfl ?_ ?_
  ·
   refine os_inline (cap := []) (vs := [(.slice ao2 p_x.strokes.length cap2), (.func (.func 109) #[] #[(pB b1 0)])]) call107 rfl rfl rfl func107 rfl 21 ntmps107 rfl (fun w' s => ?_)
   refine WP.seq (WP.region (Va rfl (WL.nil (tn (WP.seq (WP.region (Va rfl (WL.nil (tn ?_)))))))))
   obtain ⟨k2, hk2, hm⟩ := joinK_some hm
   refine WP.seq_join (fun g' S' => ∃ (i6 : Int), Sub [(5, (.int .i64 i6)), (1000000007, (.bool false))] g' ∧ (∀ w', S' w' → St w H [.blk b3 38 [(.int .i64 0), (.int .i64 0)], .blk b2 55 [(.slice ao2 p_x.strokes.length cap2), (.int .i64 p_x.wait)], .blk b1 27 [(.slice ao1 p_p.travels.length cap1)]] H w') ∧ k2 i6 = some r) ?_ ?_
   ·
    refine WP.seq (WP.region (Vm rfl (V rfl (ov_len_slice underlying53 rfl rfl) (Vm rfl (WL.nil (tn (WP.block ?_)))))))
    refine WP.loop (fun m2 g' S' => ∃ (i4 : Int) (i5 : Int), Sub [(1, (.func (.func 109) #[] #[(pB b1 0)])), (5, (.int .i64 i4)), (8, (.slice ao2 p_x.strokes.length cap2)), (9, (.int .i64 (p_x.strokes.length : Int))), (10, (.int .i64 i5)), (1000000007, (.bool false))] g' ∧ (∀ w', S' w' → St w H [.blk b3 38 [(.int .i64 0), (.int .i64 0)], .blk b2 55 [(.slice ao2 p_x.strokes.length cap2), (.int .i64 p_x.wait)], .blk b1 27 [(.slice ao1 p_p.travels.length cap1)]] H w') ∧ schedule_moves_loop2 p_p p_x k2 m2 i4 i5 = some r) ((Int.toNat ((p_x.strokes.length : Int) - 0) + 1)) ⟨0, 0, (Sub.all rfl), fun w' s => s, hm⟩ ?_ ?_
    ·
     rintro g' S' ⟨_, _, _, _, hm⟩
     exact none_some hm
    rintro m2 g' S' ⟨i4, i5, hsub3, hS3, hm⟩
    refine WP.sub hsub3 (WP.weaken hS3 ?_)
    rw [schedule_moves_loop2] at hm
    refine WP.seq (WP.region (V rfl (ov_lss rfl rfl rfl) (WL.nil (tn (WP.seq ?_)))))
    refine WP.cond rfl (fun hc4 => ?_) (fun hc4 => ?_)
    ·
     replace hm := ite_t hc4 hm
     refine WP.skip (tn (WP.seq (WP.block (WP.seq (WP.region ?_)))))
     obtain ⟨x2, e3, hm⟩ := bind_some hm
     obtain ⟨h8, h9, h10, cs2, h11, h12⟩ := h2.get e3 (by decide)
     obtain rfl : cs2 = [(.int .i64 x2.actuator), (.bool x2.out)] := h11
     refine V rfl (ov_indexAddr underlying53 sizeOf59 rfl rfl rfl h8 h9 h10) (V rfl (ov_load_elems (vs := [(.int .i64 x2.actuator), (.bool x2.out)]) isAgg59 sizeOf59 rfl rfl rfl h12 h10) ?_)
     refine ws rfl (os_alloc (cs := [(.int .i64 0), (.bool false)]) zeroValue59 rfl rfl (fun b6 => ?_))
     refine ws0 rfl (os_store (i := 0) (vs := [(.int .i64 x2.actuator), (.bool x2.out)]) (cs' := [(.int .i64 x2.actuator), (.bool x2.out)]) sizeOf59 rfl rfl rfl rfl rfl rfl rfl rfl rfl ?_)
     refine WL.nil (tn (WP.region (Vm rfl (Vm rfl (V rfl (ov_load_whole (i := 0) isAgg59 sizeOf59 rfl rfl rfl rfl) ?_)))))
     refine ws rfl (os_inline (cap := [(pB b1 0)]) (vs := [(.agg #[(.int .i64 x2.actuator), (.bool x2.out)])]) call109 rfl rfl rfl func109 rfl 8 ntmps109 rfl (fun w' s => ?_))
     refine WP.seq (WP.region ?_)
     refine ws rfl (os_box (cs := [(.int .i64 x2.actuator), (.bool x2.out)]) rfl rfl rfl (fun b7 => ?_))
     refine Va rfl (WL.nil (tn (WP.seq (WP.region (V rfl (ov_load_whole (i := 4) isAgg27 sizeOf27 rfl rfl rfl rfl) (V rfl (ov_load_whole (i := 0) isAgg59 sizeOf59 rfl rfl rfl rfl) ?_))))))
     obtain ⟨r2, e4, hm⟩ := bind_some hm
     refine wo rfl (oq_con (r := (.agg #[(.int .i64 r2.low), (.int .i64 r2.high)])) call23 rfl rfl (fun w' s => ⟨_, (schedule_way_con p_p x2 ao1 cap1  w' H s.hold h1 hc1 hG r2 e4)⟩)) ?_
     refine V rfl (ov_field (cs := [(.int .i64 r2.low), (.int .i64 r2.high)]) (r := (.int .i64 r2.high)) rfl rfl (fun _ => by kernel_rfl)) (Va rfl (WL.nil (tn (WP.ret ?_))))
     refine retQ_ret (v := (.int .i64 r2.high)) results109 (Res.tmp rfl Res.nil) rfl (fun w' s => ⟨_, ?_, s⟩)
     refine V rfl (ov_max rfl rfl rfl) (Va rfl (WL.nil (bn (tn (WP.region (V rfl (ov_add rfl rfl rfl) (Vm rfl (WL.nil (tn ?_)))))))))
     exact ⟨(if r2.high > i4 then r2.high else i4), (IntKind.wrap .i64 (i5 + 1)), (Sub.all rfl), fun w' s => (s.select [2, 3, 4] (by decide) rfl), hm⟩
    replace hm := ite_f hc4 hm
    refine WP.exit (then_exit (then_exit (block_here (tn ?_))))
    exact ⟨i4, (Sub.all rfl), fun w' s => s, hm⟩
   rintro g' S' ⟨i6, hsub4, hS4, hm⟩
   refine WP.sub hsub4 (WP.weaken hS4 ?_)
   replace hm := (congrFun hk2 i6).symm.trans hm
   refine WP.seq (WP.region (Vm rfl (Va rfl (WL.nil (tn (WP.ret ?_))))))
   refine retQ_ret (v := (.int .i64 i6)) results107 (Res.tmp rfl Res.nil) rfl (fun w' s => ⟨_, ?_, s⟩)
   refine ⟨fun w' s => (s.select [1, 2] (by decide) rfl), ?_⟩
   refine TQ 8 (by kernel_rfl) rfl (ov_build (r := (.agg #[(.int .i64 i3), (.int .i64 i6)])) rfl rfl (fun _ => by kernel_rfl)) ?_
   refine AL.any (rs := [9]) (by kernel_rfl) (by decide) ?_
   refine ALs.cons0 (i := 9) rfl (Runs.free rfl) rfl ?_ ?_
   ·
    refine os_store (i := 0) (vs := [(.int .i64 i3), (.int .i64 i6)]) (cs' := [(.int .i64 i3), (.int .i64 i6)]) sizeOf38 rfl rfl rfl rfl rfl rfl rfl rfl rfl ?_
    refine ⟨fun w' s => (s.select [1, 2] (by decide) rfl), ?_⟩
    refine AL.done (by kernel_rfl) ?_
    refine tn (WP.ret ?_)
    obtain rfl := Option.some.inj hm
    refine retQ_ret results81 (Res.cell rfl (box_loads (i := 0) isAgg38 sizeOf38 rfl rfl) Res.nil) rfl (fun w' s => ⟨s.below, ?_⟩)
    exact rfl
   exact ALs.nil
  exact ALs.nil
 exact ALs.nil
theorem schedule_waited_con (p_a : Span) (p_wait : Int) (w : World) (H : Heap) (hH : Le H (hp w)) (hG : Glob H) (r : Span) (hm : schedule_waited p_a p_wait = some r) :
  Con prog 82 [(.agg #[(.int .i64 p_a.low), (.int .i64 p_a.high)]), (.int .i64 p_wait)] w H (fun v _ => v = (.agg #[(.int .i64 r.low), (.int .i64 r.high)])) := by
 unfold schedule_waited at hm
 refine con_of hH func82 rfl 10 ntmps82 rfl ?_
 refine WP.seq (WP.region ?_)
 refine ws rfl (os_box (cs := [(.int .i64 p_a.low), (.int .i64 p_a.high)]) rfl rfl rfl (fun b1 => ?_))
 refine ws rfl (os_alloc (cs := [(.int .i64 0), (.int .i64 0)]) zeroValue38 rfl rfl (fun b2 => ?_))
 refine WL.nil (tn (WP.seq (WP.region (V rfl (ov_load_whole (i := 1) isAgg38 sizeOf38 rfl rfl rfl rfl) (Vm rfl (Vm rfl (V rfl (ov_build (r := (.agg #[(.int .i64 p_wait), (.int .i64 p_wait)])) rfl rfl (fun _ => by kernel_rfl)) ?_)))))))
 obtain ⟨r1, e1, hm⟩ := bind_some hm
 refine wo rfl (oq_con (r := (.agg #[(.int .i64 r1.low), (.int .i64 r1.high)])) call80 rfl rfl (fun w' s => ⟨_, (schedule_later_con p_a (Span.mk p_wait p_wait)  w' H s.hold hG r1 e1)⟩)) ?_
 refine ws0 rfl (os_store (i := 0) (vs := [(.int .i64 r1.low), (.int .i64 r1.high)]) (cs' := [(.int .i64 r1.low), (.int .i64 r1.high)]) sizeOf38 rfl rfl rfl rfl rfl rfl rfl rfl rfl ?_)
 refine WL.nil (tn (WP.ret ?_))
 obtain rfl := Option.some.inj hm
 refine retQ_ret results82 (Res.cell rfl (box_loads (i := 0) isAgg38 sizeOf38 rfl rfl) Res.nil) rfl (fun w' s => ⟨s.below, ?_⟩)
 exact rfl
theorem schedule_slots_1_con {σ : Type} (step : σ → (Int × Slot) → Option (Bool × σ)) {w0 : World} {H0 : Heap} {y : Value} {T T' : σ → Heap → List Ent → Prop} (hY : Yields prog w0 H0 y encSeqSlot step T T') (p_s : Sequence) (p_p : Plant) (z : σ) (bc1 : Nat) (ao1 : Option Addr) (cap1 : Nat) (bc2 : Nat) (ao2 : Option Addr) (cap2 : Nat) (fr tl : List Ent) (H : Heap) (h1 : SL H encStep ao1 p_s.steps) (hc1 : p_s.steps.length ≤ cap1) (h2 : SL H encTravel ao2 p_p.travels) (hc2 : p_p.travels.length ≤ cap2) (hb1 : RowAt H (some ⟨bc1, 0, none⟩) 0 [(.int .i64 p_s.actuators), (.slice ao1 p_s.steps.length cap1)]) (hb2 : RowAt H (some ⟨bc2, 0, none⟩) 0 [(.slice ao2 p_p.travels.length cap2)]) (hT : TH hY z H tl) (hG : Glob H) (r : (Bool × σ)) (hm : schedule_slots_1 step p_s p_p z = some r) :
  BCon prog 79 [y, (pB bc1 0), (pB bc2 0)] w0 H0 (fr ++ tl) H (fun v H' ms' => v = .tuple #[] ∧ IterR hY fr r H' ms') := by
 unfold schedule_slots_1 at hm
 refine bcon_of func79 rfl 36 ntmps79 rfl ?_
 refine WP.seq (WP.region ?_)
 refine ws rfl (os_alloc (cs := [(.int .i64 0), (.int .i64 0)]) zeroValue38 rfl rfl (fun b1 => ?_))
 refine WL.nil (tn (WP.seq (WP.region (V rfl (ov_fieldAddrE (ao := (some ⟨bc1, 0, none⟩)) (k := 0) underlying24 rfl rfl rfl sizeOf22 rfl rfl) ?_))))
 refine V rfl (ov_load_elem (v := (.slice ao1 p_s.steps.length cap1)) isAgg22 rfl rfl (hb1.one (off := 1) rfl)) (V rfl (ov_len_slice underlying22 rfl rfl) (Vm rfl (WL.nil (tn (WP.block ?_)))))
 refine WP.loop (fun m1 g' S' => ∃ (z1 : σ) (tl1 : List Ent) (H1 : Heap) (i1 : Int) (i2 : Int) (i3 : Int), TH hY z1 H1 tl1 ∧ Le H H1 ∧ Sub [(0, y), (2, (pE (some ⟨bc2, 0, none⟩) 0)), (4, (pB b1 0)), (10, (.slice ao1 p_s.steps.length cap1)), (11, (.int .i64 (p_s.steps.length : Int))), (12, (.int .i64 i1)), (1000000007, (.bool false))] g' ∧ (∀ w', S' w' → St w0 H0 (.blk b1 38 [(.int .i64 i2), (.int .i64 i3)] :: (fr ++ tl1)) H1 w') ∧ schedule_slots_1_loop1 step p_s p_p m1 z1 i1 i2 i3 = some r) ((Int.toNat ((p_s.steps.length : Int) - 0) + 1)) ⟨z, tl, H, 0, 0, 0, hT, (Le.refl _), (Sub.all rfl), fun w' s => s, hm⟩ ?_ ?_
 ·
  rintro g' S' ⟨_, _, _, _, _, _, _, _, _, _, hm⟩
  exact none_some hm
 rintro m1 g' S' ⟨z1, tl1, H1, i1, i2, i3, hT1, hle1, hsub1, hS1, hm⟩
 refine WP.sub hsub1 (WP.weaken hS1 ?_)
 rw [schedule_slots_1_loop1] at hm
 replace hb2 := hb2.mono hle1
 replace h1 := h1.mono hle1
 replace hG := hG.mono hle1
 replace h2 := h2.mono hle1
 refine WP.seq (WP.region (V rfl (ov_lss rfl rfl rfl) (WL.nil (tn (WP.seq ?_)))))
 refine WP.cond rfl (fun hc3 => ?_) (fun hc3 => ?_)
 ·
  replace hm := ite_t hc3 hm
  refine WP.skip (tn (WP.seq (WP.block (WP.seq (WP.region (Vm rfl ?_))))))
  obtain ⟨x1, e1, hm⟩ := bind_some hm
  obtain ⟨h4, h5, h6, cs1, h7, h8⟩ := h1.get e1 (by decide)
  obtain ⟨ao3, cap3, rfl, h3, hc4⟩ := h7
  refine V rfl (ov_indexAddr underlying22 sizeOf55 rfl rfl rfl h4 h5 h6) (V rfl (ov_load_elems (vs := [(.slice ao3 x1.strokes.length cap3), (.int .i64 x1.wait)]) isAgg55 sizeOf55 rfl rfl rfl h8 h6) ?_)
  refine ws rfl (os_alloc (cs := [(.slice none 0 0), (.int .i64 0)]) zeroValue55 rfl rfl (fun b2 => ?_))
  refine Va rfl ?_
  refine ws0 rfl (os_store (i := 0) (vs := [(.slice ao3 x1.strokes.length cap3), (.int .i64 x1.wait)]) (cs' := [(.slice ao3 x1.strokes.length cap3), (.int .i64 x1.wait)]) sizeOf55 rfl rfl rfl rfl rfl rfl rfl rfl rfl ?_)
  refine WL.nil (tn ?_)
  obtain ⟨k1, hk1, hm⟩ := joinK_some hm
  refine WP.seq_join (fun g' S' => ∃ (b4 : Nat) (i4 : Int) (i5 : Int), Sub [(0, y), (2, (pE (some ⟨bc2, 0, none⟩) 0)), (4, (pB b1 0)), (5, (.int .i64 i1)), (6, (pB b2 0)), (7, (pB b4 0)), (10, (.slice ao1 p_s.steps.length cap1)), (11, (.int .i64 (p_s.steps.length : Int))), (12, (.int .i64 i1)), (1000000007, (.bool false))] g' ∧ (∀ w', S' w' → St w0 H0 (.blk b4 38 [(.int .i64 i4), (.int .i64 i5)] :: .blk b2 55 [(.slice ao3 x1.strokes.length cap3), (.int .i64 x1.wait)] :: .blk b1 38 [(.int .i64 i2), (.int .i64 i3)] :: (fr ++ tl1)) H1 w') ∧ k1 i4 i5 = some r) ?_ ?_
  ·
   refine WP.region_any (S₀ := St w0 H0 (.blk b2 55 [(.slice ao3 x1.strokes.length cap3), (.int .i64 x1.wait)] :: .blk b1 38 [(.int .i64 i2), (.int .i64 i3)] :: (fr ++ tl1)) H1) 7 rfl (by kernel_rfl) (fun w' s => s) (fun _ s => s.drew) ?_
   refine TQ 0 (by kernel_rfl) rfl (ov_load_whole (i := 1) isAgg38 sizeOf38 rfl rfl rfl rfl) (TQ 1 (by kernel_rfl) rfl (ov_load_elems (vs := [(.slice ao2 p_p.travels.length cap2)]) isAgg27 sizeOf27 rfl rfl rfl hb2 ⟨_, rfl⟩) (TQ 2 (by kernel_rfl) rfl (ov_load_whole (i := 0) isAgg55 sizeOf55 rfl rfl rfl rfl) ?_))
   refine AL.any (rs := [3, 5]) (by kernel_rfl) (by decide) ?_
   refine ALs.cons (i := 3) rfl (Runs.free rfl) rfl rfl ?_ ?_
   ·
    obtain ⟨r1, e2, hm⟩ := bind_some hm
    refine OQ.step (oq_con (r := (.agg #[(.int .i64 r1.low), (.int .i64 r1.high)])) call81 rfl rfl (fun w' s => ⟨_, (schedule_moves_con p_p x1 ao2 cap2 ao3 cap3  w' H1 s.hold h2 hc2 h3 hc4 hG r1 e2)⟩)) ?_
    refine ⟨fun w' s => s, ?_⟩
    refine AL.any (rs := [4, 5]) (by kernel_rfl) (by decide) ?_
    refine ALs.cons (i := 4) rfl (Runs.free rfl) rfl rfl ?_ ?_
    ·
     obtain ⟨r2, e3, hm⟩ := bind_some hm
     refine OQ.step (oq_con (r := (.agg #[(.int .i64 r2.low), (.int .i64 r2.high)])) call80 rfl rfl (fun w' s => ⟨_, (schedule_later_con (Span.mk i2 i3) r1  w' H1 s.hold hG r2 e3)⟩)) ?_
     refine ⟨fun w' s => s, ?_⟩
     refine AL.any (rs := [5]) (by kernel_rfl) (by decide) ?_
     refine ALs.cons (i := 5) rfl (Runs.free rfl) rfl rfl ?_ ?_
     ·
      refine os_alloc (cs := [(.int .i64 0), (.int .i64 0)]) zeroValue38 rfl rfl (fun b3 => ?_)
      refine ⟨fun w' s => (s.selectT 3 [1, 2] (by decide) rfl rfl), ?_⟩
      refine AL.any (rs := [6]) (by kernel_rfl) (by decide) ?_
      refine ALs.cons0 (i := 6) rfl (Runs.free rfl) rfl ?_ ?_
      ·
       refine os_store (i := 0) (vs := [(.int .i64 r2.low), (.int .i64 r2.high)]) (cs' := [(.int .i64 r2.low), (.int .i64 r2.high)]) sizeOf38 rfl rfl rfl rfl rfl rfl rfl rfl rfl ?_
       refine ⟨fun w' s => (s.selectT 3 [1, 2] (by decide) rfl rfl), ?_⟩
       refine AL.done (by kernel_rfl) ?_
       refine tn ?_
       exact ⟨b3, r2.low, r2.high, (Sub.all rfl), fun w' s => s, hm⟩
      exact ALs.nil
     exact ALs.nil
    refine ALs.cons (i := 5) rfl (Runs.free rfl) rfl rfl ?_ ?_
    ·
     refine os_alloc (cs := [(.int .i64 0), (.int .i64 0)]) zeroValue38 rfl rfl (fun b3 => ?_)
     refine ⟨fun w' s => (s.selectT 3 [1, 2] (by decide) rfl rfl), ?_⟩
     refine AL.any (rs := [4]) (by kernel_rfl) (by decide) ?_
     refine ALs.cons (i := 4) rfl (Runs.free rfl) rfl rfl ?_ ?_
     ·
      obtain ⟨r2, e3, hm⟩ := bind_some hm
      refine OQ.step (oq_con (r := (.agg #[(.int .i64 r2.low), (.int .i64 r2.high)])) call80 rfl rfl (fun w' s => ⟨_, (schedule_later_con (Span.mk i2 i3) r1  w' H1 s.hold hG r2 e3)⟩)) ?_
      refine ⟨fun w' s => (s.selectT 3 [1, 2] (by decide) rfl rfl), ?_⟩
      refine AL.any (rs := [6]) (by kernel_rfl) (by decide) ?_
      refine ALs.cons0 (i := 6) rfl (Runs.free rfl) rfl ?_ ?_
      ·
       refine os_store (i := 0) (vs := [(.int .i64 r2.low), (.int .i64 r2.high)]) (cs' := [(.int .i64 r2.low), (.int .i64 r2.high)]) sizeOf38 rfl rfl rfl rfl rfl rfl rfl rfl rfl ?_
       refine ⟨fun w' s => (s.selectT 3 [1, 2] (by decide) rfl rfl), ?_⟩
       refine AL.done (by kernel_rfl) ?_
       refine tn ?_
       exact ⟨b3, r2.low, r2.high, (Sub.all rfl), fun w' s => s, hm⟩
      exact ALs.nil
     exact ALs.nil
    exact ALs.nil
   refine ALs.cons (i := 5) rfl (Runs.free rfl) rfl rfl ?_ ?_
   ·
    refine os_alloc (cs := [(.int .i64 0), (.int .i64 0)]) zeroValue38 rfl rfl (fun b3 => ?_)
    refine ⟨fun w' s => (s.selectT 3 [1, 2] (by decide) rfl rfl), ?_⟩
    refine AL.any (rs := [3]) (by kernel_rfl) (by decide) ?_
    refine ALs.cons (i := 3) rfl (Runs.free rfl) rfl rfl ?_ ?_
    ·
     obtain ⟨r1, e2, hm⟩ := bind_some hm
     refine OQ.step (oq_con (r := (.agg #[(.int .i64 r1.low), (.int .i64 r1.high)])) call81 rfl rfl (fun w' s => ⟨_, (schedule_moves_con p_p x1 ao2 cap2 ao3 cap3  w' H1 s.hold h2 hc2 h3 hc4 hG r1 e2)⟩)) ?_
     refine ⟨fun w' s => (s.selectT 3 [1, 2] (by decide) rfl rfl), ?_⟩
     refine AL.any (rs := [4]) (by kernel_rfl) (by decide) ?_
     refine ALs.cons (i := 4) rfl (Runs.free rfl) rfl rfl ?_ ?_
     ·
      obtain ⟨r2, e3, hm⟩ := bind_some hm
      refine OQ.step (oq_con (r := (.agg #[(.int .i64 r2.low), (.int .i64 r2.high)])) call80 rfl rfl (fun w' s => ⟨_, (schedule_later_con (Span.mk i2 i3) r1  w' H1 s.hold hG r2 e3)⟩)) ?_
      refine ⟨fun w' s => (s.selectT 3 [1, 2] (by decide) rfl rfl), ?_⟩
      refine AL.any (rs := [6]) (by kernel_rfl) (by decide) ?_
      refine ALs.cons0 (i := 6) rfl (Runs.free rfl) rfl ?_ ?_
      ·
       refine os_store (i := 0) (vs := [(.int .i64 r2.low), (.int .i64 r2.high)]) (cs' := [(.int .i64 r2.low), (.int .i64 r2.high)]) sizeOf38 rfl rfl rfl rfl rfl rfl rfl rfl rfl ?_
       refine ⟨fun w' s => (s.selectT 3 [1, 2] (by decide) rfl rfl), ?_⟩
       refine AL.done (by kernel_rfl) ?_
       refine tn ?_
       exact ⟨b3, r2.low, r2.high, (Sub.all rfl), fun w' s => s, hm⟩
      exact ALs.nil
     exact ALs.nil
    exact ALs.nil
   exact ALs.nil
  rintro g' S' ⟨b4, i4, i5, hsub2, hS2, hm⟩
  refine WP.sub hsub2 (WP.weaken hS2 ?_)
  replace hm := (congrFun (congrFun hk1 i4) i5).symm.trans hm
  refine WP.seq (WP.region (V rfl (ov_load_whole (i := 0) isAgg38 sizeOf38 rfl rfl rfl rfl) (V rfl (ov_fieldAddr underlying55 rfl rfl rfl sizeOf3 rfl rfl) (Vl 1 isAgg3 rfl ?_))))
  obtain ⟨r3, e4, hm⟩ := bind_some hm
  refine wo rfl (oq_con (r := (.agg #[(.int .i64 r3.low), (.int .i64 r3.high)])) call82 rfl rfl (fun w' s => ⟨_, (schedule_waited_con (Span.mk i4 i5) x1.wait  w' H1 s.hold hG r3 e4)⟩)) ?_
  refine ws rfl (os_alloc (cs := [(.int .i64 0), (.int .i64 0)]) zeroValue38 rfl rfl (fun b5 => ?_))
  refine ws0 rfl (os_store (i := 0) (vs := [(.int .i64 r3.low), (.int .i64 r3.high)]) (cs' := [(.int .i64 r3.low), (.int .i64 r3.high)]) sizeOf38 rfl rfl rfl rfl rfl rfl rfl rfl rfl ?_)
  refine WL.nil (tn (WP.seq (WP.seq (WP.region (Vm rfl (Vm rfl (V rfl (ov_load_whole (i := 3) isAgg38 sizeOf38 rfl rfl rfl rfl) (V rfl (ov_load_whole (i := 1) isAgg38 sizeOf38 rfl rfl rfl rfl) (V rfl (ov_load_whole (i := 0) isAgg38 sizeOf38 rfl rfl rfl rfl) (V rfl (ov_build (r := (.agg #[(.int .i64 i2), (.int .i64 i3), (.int .i64 i4), (.int .i64 i5), (.int .i64 r3.low), (.int .i64 r3.high)])) rfl rfl (fun _ => by kernel_rfl)) ?_))))))))))
  obtain ⟨r4, e5, hm⟩ := bind_some hm
  refine WL.yields2 (r := r4) (.blk b5 38 [(.int .i64 r3.low), (.int .i64 r3.high)] :: .blk b4 38 [(.int .i64 i4), (.int .i64 i5)] :: .blk b2 55 [(.slice ao3 x1.strokes.length cap3), (.int .i64 x1.wait)] :: .blk b1 38 [(.int .i64 i2), (.int .i64 i3)] :: fr) (Runs.free rfl) rfl rfl rfl rfl rfl hY e5 rfl hT1 ?_ ?_
  ·
   intro hc5 H2 tl2 hle2 hT2
   replace hm := ite_t hc5 hm
   refine WL.weaken (S₁ := St w0 H0 (.blk b5 38 [(.int .i64 r3.low), (.int .i64 r3.high)] :: .blk b4 38 [(.int .i64 i4), (.int .i64 i5)] :: .blk b2 55 [(.slice ao3 x1.strokes.length cap3), (.int .i64 x1.wait)] :: .blk b1 38 [(.int .i64 i2), (.int .i64 i3)] :: (fr ++ tl2)) H2) (fun _ s => s) ?_
   refine V rfl (ov_not rfl rfl) (WL.nil (tn (WP.cond_false rfl (WP.skip (tn (WP.region (V rfl (ov_load_whole (i := 0) isAgg38 sizeOf38 rfl rfl rfl rfl) ?_)))))))
   refine ws0 rfl (os_store (i := 3) (vs := [(.int .i64 r3.low), (.int .i64 r3.high)]) (cs' := [(.int .i64 r3.low), (.int .i64 r3.high)]) sizeOf38 rfl rfl rfl rfl rfl rfl rfl rfl rfl ?_)
   refine WL.nil (bn (tn (WP.region (V rfl (ov_add rfl rfl rfl) (Vm rfl (WL.nil (tn ?_)))))))
   exact ⟨r4.2, tl2, H2, (IntKind.wrap .i64 (i1 + 1)), r3.low, r3.high, hT2, (hle1.trans hle2), (Sub.all rfl), fun w' s => (s.selectT 4 [3] (by decide) rfl rfl), hm⟩
  intro hc6 H3 tl3 hle3 hT3
  replace hm := ite_f hc6 hm
  refine WL.weaken (S₁ := St w0 H0 (.blk b5 38 [(.int .i64 r3.low), (.int .i64 r3.high)] :: .blk b4 38 [(.int .i64 i4), (.int .i64 i5)] :: .blk b2 55 [(.slice ao3 x1.strokes.length cap3), (.int .i64 x1.wait)] :: .blk b1 38 [(.int .i64 i2), (.int .i64 i3)] :: (fr ++ tl3)) H3) (fun _ s => s) ?_
  refine V rfl (ov_not rfl rfl) (WL.nil (tn (WP.cond_true rfl (WP.ret (then_ret (block_ret (then_ret (then_ret (block_ret ?_)))))))))
  obtain rfl := Option.some.inj hm
  refine retQ_ret results79 Res.nil rfl (fun w' s => ⟨H3, _, (hle1.trans hle3), ⟨rfl, tl3, rfl, hT3⟩, (s.selectT 4 [] (by decide) rfl rfl)⟩)
 replace hm := ite_f hc3 hm
 refine WP.exit (then_exit (then_exit (block_here ?_)))
 obtain rfl := Option.some.inj hm
 refine retQ_end results79 Res.nil rfl (fun w' s => ⟨H1, _, hle1, ⟨rfl, tl1, rfl, hT1⟩, (s.selectT 1 [] (by decide) rfl rfl)⟩)
end Go.Proofs.YtkgijoddkibapaaGreatDoor.W
