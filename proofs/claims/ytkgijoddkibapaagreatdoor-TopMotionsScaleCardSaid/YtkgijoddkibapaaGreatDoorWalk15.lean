import Derived.Test.YtkgijoddkibapaaGreatDoorPlain
import Derived.Test.YtkgijoddkibapaaGreatDoorEqs
import Derived.Test.YtkgijoddkibapaaGreatDoorProg
import Derived.Test.YtkgijoddkibapaaGreatDoorExt
import Derived.Test.YtkgijoddkibapaaGreatDoorBuild
import Derived.Test.YtkgijoddkibapaaGreatDoorClone
import Derived.Test.YtkgijoddkibapaaGreatDoorWalk1
import Derived.Test.YtkgijoddkibapaaGreatDoorWalk2
import Derived.Test.YtkgijoddkibapaaGreatDoorWalk4
import Derived.Test.YtkgijoddkibapaaGreatDoorWalk9
import Derived.Test.YtkgijoddkibapaaGreatDoorWalk10
import Derived.Test.YtkgijoddkibapaaGreatDoorWalk11
set_option linter.unusedVariables false
set_option maxRecDepth 100000
set_option maxHeartbeats 4000000
namespace Go.Proofs.YtkgijoddkibapaaGreatDoor.W
open Go Go.RowKit Go.Proofs.Tryz
theorem top_TopMotionsScale_con (p_s : Sequence) (p_p : Plant) (p_times : (List (List Int))) (ao1 : Option Addr) (cap1 : Nat) (ao2 : Option Addr) (cap2 : Nat) (ao3 : Option Addr) (cap3 : Nat) (w : World) (H : Heap) (hH : Le H (hp w)) (h1 : SL H encStep ao1 p_s.steps) (hc1 : p_s.steps.length ≤ cap1) (h2 : SL H encTravel ao2 p_p.travels) (hc2 : p_p.travels.length ≤ cap2) (h3 : SL H (encSl (encInt .i64)) ao3 p_times) (hc3 : p_times.length ≤ cap3) (hG : Glob H) (r : Bool) (hm : top_TopMotionsScale p_s p_p p_times = some r) :
  Con prog 3 [(.agg #[(.int .i64 p_s.actuators), (.slice ao1 p_s.steps.length cap1)]), (.agg #[(.slice ao2 p_p.travels.length cap2)]), (.slice ao3 p_times.length cap3)] w H (fun v _ => v = (.bool r)) := by
 unfold top_TopMotionsScale at hm
 refine con_of hH func3 rfl 144 ntmps3 rfl ?_
 refine WP.seq (WP.region ?_)
 refine ws rfl (os_box (cs := [(.int .i64 p_s.actuators), (.slice ao1 p_s.steps.length cap1)]) rfl rfl rfl (fun b1 => ?_))
 refine ws rfl (os_box (cs := [(.slice ao2 p_p.travels.length cap2)]) rfl rfl rfl (fun b2 => ?_))
 refine Va rfl (WL.nil (tn (WP.seq (WP.seq (WP.region (V rfl (ov_load_whole (i := 1) isAgg24 sizeOf24 rfl rfl rfl rfl) (V rfl (ov_load_whole (i := 0) isAgg27 sizeOf27 rfl rfl rfl rfl) ?_)))))))
 obtain ⟨r1, e1, hm⟩ := bind_some hm
 refine wo rfl (oq_con (r := (.bool r1)) call4 rfl rfl (fun w' s => ⟨_, (ref17_Few_con p_s p_p ao1 cap1 ao2 cap2  w' H s.hold h1 hc1 h2 hc2 hG r1 e1)⟩)) ?_
 refine V rfl (ov_not rfl rfl) (Vm rfl ?_)
 obtain ⟨c1, e2, hm⟩ := bind_some hm
 refine WL.cut_bool 5 30 (x := c1) ?_ ?_
 ·
  rcases Bool.eq_false_or_eq_true (!r1) with hc4 | hc4
  ·
   replace hm := ite_t hc4 e2
   refine Vi rfl (Idle.no rfl rfl rfl hc4) (Vi rfl (Idle.no rfl rfl rfl hc4) (Vi rfl (Idle.no rfl rfl rfl hc4) (Vi rfl (Idle.no rfl rfl rfl hc4) (V rfl (ov_pick_true rfl (guard_eq rfl hc4) rfl) ?_))))
   exact WL.nil ⟨Sub.cons' rfl (congrArg Value.bool (Option.some.inj hm)) (Sub.dropn 5 rfl), fun _ s => s⟩
  replace hm := ite_f hc4 e2
  refine wy hc4 rfl (ov_load_whole (i := 1) isAgg24 sizeOf24 rfl rfl rfl rfl) ?_
  refine wy hc4 rfl (ov_load_whole (i := 0) isAgg27 sizeOf27 rfl rfl rfl rfl) ?_
  obtain ⟨r2, e3, hm⟩ := bind_some hm
  refine WL.quiet (Runs.yes rfl rfl rfl hc4) rfl rfl (oq_con (r := (.int .i64 r2)) call5 rfl rfl (fun w' s => ⟨_, (ref17_Check_con p_s p_p ao1 cap1 ao2 cap2  w' H s.hold h1 hc1 h2 hc2 hG r2 e3)⟩)) ?_
  refine wy hc4 rfl (ov_neq rfl rfl rfl) ?_
  refine V rfl (ov_pick_false rfl (guard_eq rfl hc4) rfl) ?_
  exact WL.nil ⟨Sub.cons' rfl (congrArg Value.bool (Option.some.inj hm)) (Sub.dropn 5 rfl), fun _ s => s⟩
 refine Vm rfl ?_
 refine WL.cut_bool 5 36 (x := (c1 || (decide ((p_s.steps.length : Int) > 10)))) ?_ ?_
 ·
  rcases Bool.eq_false_or_eq_true c1 with hc5 | hc5
  ·
   refine Vi rfl (Idle.no rfl rfl rfl hc5) (Vi rfl (Idle.no rfl rfl rfl hc5) (Vi rfl (Idle.no rfl rfl rfl hc5) (Vi rfl (Idle.no rfl rfl rfl hc5) (V rfl (ov_pick_true rfl (guard_eq rfl hc5) rfl) ?_))))
   exact WL.nil ⟨Sub.cons' rfl (congrArg Value.bool (orT hc5)) (Sub.dropn 5 rfl), fun _ s => s⟩
  refine wy hc5 rfl (ov_fieldAddr underlying24 rfl rfl rfl sizeOf22 rfl rfl) ?_
  refine wy hc5 rfl (ov_load_box (i := 1) isAgg22 rfl rfl rfl rfl) ?_
  refine wy hc5 rfl (ov_len_slice underlying22 rfl rfl) ?_
  refine wy hc5 rfl (ov_gtr rfl rfl rfl) ?_
  refine V rfl (ov_pick_false rfl (guard_eq rfl hc5) rfl) ?_
  exact WL.nil ⟨Sub.cons' rfl (congrArg Value.bool (orF hc5)) (Sub.dropn 5 rfl), fun _ s => s⟩
 refine Vm rfl ?_
 obtain ⟨c2, e4, hm⟩ := bind_some hm
 refine WL.cut_bool 6 43 (x := c2) ?_ ?_
 ·
  rcases Bool.eq_false_or_eq_true (c1 || (decide ((p_s.steps.length : Int) > 10))) with hc6 | hc6
  ·
   replace hm := ite_t hc6 e4
   refine Vi rfl (Idle.no rfl rfl rfl hc6) (Vi rfl (Idle.no rfl rfl rfl hc6) (Vi rfl (Idle.no rfl rfl rfl hc6) (Vi rfl (Idle.no rfl rfl rfl hc6) (Vi rfl (Idle.no rfl rfl rfl hc6) (V rfl (ov_pick_true rfl (guard_eq rfl hc6) rfl) ?_)))))
   exact WL.nil ⟨Sub.cons' rfl (congrArg Value.bool (Option.some.inj hm)) (Sub.dropn 6 rfl), fun _ s => s⟩
  replace hm := ite_f hc6 e4
  refine wy hc6 rfl (ov_load_whole (i := 1) isAgg24 sizeOf24 rfl rfl rfl rfl) ?_
  refine wy hc6 rfl (ov_load_whole (i := 0) isAgg27 sizeOf27 rfl rfl rfl rfl) ?_
  refine wy hc6 rfl (ov_move rfl rfl) ?_
  obtain ⟨r3, e5, hm⟩ := bind_some hm
  refine WL.quiet (Runs.yes rfl rfl rfl hc6) rfl rfl (oq_con (r := (.int .i64 r3)) call6 rfl rfl (fun w' s => ⟨_, (ref17_Chosen_con p_s p_p p_times ao1 cap1 ao2 cap2 ao3 cap3  w' H s.hold h1 hc1 h2 hc2 h3 hc3 hG r3 e5)⟩)) ?_
  refine wy hc6 rfl (ov_neq rfl rfl rfl) ?_
  refine V rfl (ov_pick_false rfl (guard_eq rfl hc6) rfl) ?_
  exact WL.nil ⟨Sub.cons' rfl (congrArg Value.bool (Option.some.inj hm)) (Sub.dropn 6 rfl), fun _ s => s⟩
 refine WL.nil (tn ?_)
 refine WP.cond rfl (fun hc7 => ?_) (fun hc7 => ?_)
 ·
  replace hm := ite_t hc7 hm
  refine WP.seq (WP.region ?_)
  obtain ⟨r4, e6, hm⟩ := bind_some hm
  refine wo rfl (oq_con (r := (.bool r4)) call7 rfl rfl (fun w' s => ⟨_, (top_runMotion_con   w' H s.hold hG r4 e6)⟩)) ?_
  refine Va rfl (WL.nil (tn (WP.ret (then_ret ?_))))
  obtain rfl := Option.some.inj hm
  refine retQ_ret results3 (Res.tmp rfl Res.nil) rfl (fun w' s => ⟨s.below, ?_⟩)
  exact rfl
 replace hm := ite_f hc7 hm
 refine WP.skip (tn (WP.seq (WP.region (V rfl (ov_load_whole (i := 1) isAgg24 sizeOf24 rfl rfl rfl rfl) (V rfl (ov_load_whole (i := 0) isAgg27 sizeOf27 rfl rfl rfl rfl) (Vm rfl ?_))))))
 obtain ⟨r5, e7, hm⟩ := bind_some hm
 refine ws rfl (os_con call8 rfl rfl (fun w' s => (schedule_Run_con p_s p_p p_times ao1 cap1 ao2 cap2 ao3 cap3  w' H s.hold h1 hc1 h2 hc2 h3 hc3 hG r5 e7)) (fun rr1 H1 hle1 hR1 => ?_))
 replace h1 := h1.mono hle1
 replace h2 := h2.mono hle1
 replace hG := hG.mono hle1
 obtain ⟨ao4, cap4, rfl, h4, hc8⟩ := hR1
 refine Vm rfl (Ve rfl (Ve rfl (Va rfl (Va rfl (WL.nil (tn (WP.seq (WP.region (V rfl (ov_load_whole (i := 1) isAgg24 sizeOf24 rfl rfl rfl rfl) (V rfl (ov_load_whole (i := 0) isAgg27 sizeOf27 rfl rfl rfl rfl) ?_))))))))))
 obtain ⟨r6, e8, hm⟩ := bind_some hm
 refine wo rfl (oq_con (r := (.tuple #[(.agg #[(.int .i64 r6.1.low), (.int .i64 r6.1.high)]), (.int .i64 r6.2)])) call9 rfl rfl (fun w' s => ⟨_, (schedule_Cycle_con p_s p_p ao1 cap1 ao2 cap2  w' H1 s.hold h1 hc1 h2 hc2 hG r6 e8)⟩)) ?_
 refine Vm rfl (Ve rfl (Ve rfl ?_))
 refine ws rfl (os_alloc (cs := [(.int .i64 0), (.int .i64 0)]) zeroValue38 rfl rfl (fun b3 => ?_))
 refine ws0 rfl (os_store (i := 0) (vs := [(.int .i64 r6.1.low), (.int .i64 r6.1.high)]) (cs' := [(.int .i64 r6.1.low), (.int .i64 r6.1.high)]) sizeOf38 rfl rfl rfl rfl rfl rfl rfl rfl rfl ?_)
 refine Va rfl (WL.nil (tn (WP.seq (WP.seq (WP.region (Vm rfl (Vm rfl (V rfl (ov_add rfl rfl rfl) (V rfl (ov_neq rfl rfl rfl) (Vm rfl ?_))))))))))
 refine WL.cut_bool 7 69 (x := (((IntKind.wrap .i64 (r5.2 + r6.2)) != 0) || ((r5.1.length : Int) != (p_s.steps.length : Int)))) ?_ ?_
 ·
  rcases Bool.eq_false_or_eq_true ((IntKind.wrap .i64 (r5.2 + r6.2)) != 0) with hc9 | hc9
  ·
   refine Vi rfl (Idle.no rfl rfl rfl hc9) (Vi rfl (Idle.no rfl rfl rfl hc9) (Vi rfl (Idle.no rfl rfl rfl hc9) (Vi rfl (Idle.no rfl rfl rfl hc9) (Vi rfl (Idle.no rfl rfl rfl hc9) (Vi rfl (Idle.no rfl rfl rfl hc9) (V rfl (ov_pick_true rfl (guard_eq rfl hc9) rfl) ?_))))))
   exact WL.nil ⟨Sub.cons' rfl (congrArg Value.bool (orT hc9)) (Sub.dropn 7 rfl), fun _ s => s⟩
  refine wy hc9 rfl (ov_move rfl rfl) ?_
  refine wy hc9 rfl (ov_len_slice underlying33 rfl rfl) ?_
  refine wy hc9 rfl (ov_fieldAddr underlying24 rfl rfl rfl sizeOf22 rfl rfl) ?_
  refine wy hc9 rfl (ov_load_box (i := 2) isAgg22 rfl rfl rfl rfl) ?_
  refine wy hc9 rfl (ov_len_slice underlying22 rfl rfl) ?_
  refine wy hc9 rfl (ov_neq rfl rfl rfl) ?_
  refine V rfl (ov_pick_false rfl (guard_eq rfl hc9) rfl) ?_
  exact WL.nil ⟨Sub.cons' rfl (congrArg Value.bool (orF hc9)) (Sub.dropn 7 rfl), fun _ s => s⟩
 refine WL.nil (tn ?_)
 refine WP.cond rfl (fun hc10 => ?_) (fun hc10 => ?_)
 ·
  replace hm := ite_t hc10 hm
  refine WP.seq (WP.region (Va rfl (WL.nil (tn (WP.ret (then_ret ?_))))))
  obtain rfl := Option.some.inj hm
  refine retQ_ret results3 (Res.tmp rfl Res.nil) rfl (fun w' s => ⟨s.below, ?_⟩)
  exact rfl
 replace hm := ite_f hc10 hm
 refine WP.skip (tn (WP.seq (WP.region (Vm rfl (Vm rfl (V rfl (ov_len_slice underlying33 rfl rfl) (V rfl (ov_sub rfl rfl rfl) ?_)))))))
 obtain ⟨x1, e9, hm⟩ := bind_some hm
 obtain ⟨h5, h6, h7, cs1, h8, h9⟩ := h4.get e9 (by decide)
 obtain rfl : cs1 = [(.int .i64 x1)] := h8
 refine V rfl (ov_indexAddr underlying33 sizeOf3 rfl rfl rfl h5 h6 h7) (V rfl (ov_load_elem (v := (.int .i64 x1)) isAgg3 rfl rfl h9) (Va rfl (WL.nil (tn (WP.seq (WP.seq (WP.region (Vm rfl (V rfl (ov_fieldAddr underlying38 rfl rfl rfl sizeOf3 rfl rfl) (Vl 0 isAgg3 rfl (V rfl (ov_lss rfl rfl rfl) (Vm rfl ?_))))))))))))
 refine WL.cut_bool 5 85 (x := ((decide (x1 < r6.1.low)) || (decide (x1 > r6.1.high)))) ?_ ?_
 ·
  rcases Bool.eq_false_or_eq_true (decide (x1 < r6.1.low)) with hc11 | hc11
  ·
   refine Vi rfl (Idle.no rfl rfl rfl hc11) (Vi rfl (Idle.no rfl rfl rfl hc11) (Vi rfl (Idle.no rfl rfl rfl hc11) (Vi rfl (Idle.no rfl rfl rfl hc11) (V rfl (ov_pick_true rfl (guard_eq rfl hc11) rfl) ?_))))
   exact WL.nil ⟨Sub.cons' rfl (congrArg Value.bool (orT hc11)) (Sub.dropn 5 rfl), fun _ s => s⟩
  refine wy hc11 rfl (ov_move rfl rfl) ?_
  refine wy hc11 rfl (ov_fieldAddr underlying38 rfl rfl rfl sizeOf3 rfl rfl) ?_
  refine wy hc11 rfl (ov_load_box (i := 0) isAgg3 rfl rfl rfl rfl) ?_
  refine wy hc11 rfl (ov_gtr rfl rfl rfl) ?_
  refine V rfl (ov_pick_false rfl (guard_eq rfl hc11) rfl) ?_
  exact WL.nil ⟨Sub.cons' rfl (congrArg Value.bool (orF hc11)) (Sub.dropn 5 rfl), fun _ s => s⟩
 refine WL.nil (tn ?_)
 refine WP.cond rfl (fun hc12 => ?_) (fun hc12 => ?_)
 ·
  replace hm := ite_t hc12 hm
  refine WP.seq (WP.region (Va rfl (WL.nil (tn (WP.ret (then_ret ?_))))))
  obtain rfl := Option.some.inj hm
  refine retQ_ret results3 (Res.tmp rfl Res.nil) rfl (fun w' s => ⟨s.below, ?_⟩)
  exact rfl
 replace hm := ite_f hc12 hm
 refine WP.skip (tn (WP.seq (WP.seq (WP.region (Vm rfl (V rfl (ov_gtr rfl rfl rfl) (WL.nil (tn ?_))))))))
 refine WP.cond rfl (fun hc13 => ?_) (fun hc13 => ?_)
 ·
  replace hm := ite_t hc13 hm
  refine WP.seq (WP.region ?_)
  obtain ⟨r7, e10, hm⟩ := bind_some hm
  refine wo rfl (oq_con (r := (.bool r7)) call7 rfl rfl (fun w' s => ⟨_, (top_runMotion_con   w' H1 s.hold hG r7 e10)⟩)) ?_
  refine Va rfl (WL.nil (tn (WP.ret (then_ret ?_))))
  obtain rfl := Option.some.inj hm
  refine retQ_ret results3 (Res.tmp rfl Res.nil) rfl (fun w' s => ⟨s.below, ?_⟩)
  exact rfl
 replace hm := ite_f hc13 hm
 refine WP.skip (tn (WP.seq (WP.region (Va rfl (WL.nil (tn (WP.seq (WP.region (Va rfl (WL.nil (tn ?_)))))))))))
 obtain ⟨k1, hk1, hm⟩ := joinK_some hm
 refine WP.seq_join (fun g' S' => ∃ (l3 : (List Int)) (ao7 : Option Addr) (cap7 : Nat) (xs2 : List Value), RL H1 (encInt .i64) l3 xs2 ∧ Sub [(3, (pB b1 0)), (12, (.slice ao7 l3.length cap7)), (1000000007, (.bool false))] g' ∧ (∀ w', S' w' → St w H [.row 3 ((encInt .i64)).size l3.length (.slice ao7 l3.length cap7) xs2, .blk b1 24 [(.int .i64 p_s.actuators), (.slice ao1 p_s.steps.length cap1)]] H1 w') ∧ k1 l3 = some r) ?_ ?_
 ·
  refine WP.seq (WP.region (Vm rfl (V rfl (ov_len_slice underlying33 rfl rfl) (Vm rfl (WL.nil (tn (WP.block ?_)))))))
  have rl1 := RL.nil (α := Int) H1 (encInt .i64)
  refine WP.weaken (fun _ s => s.nilrow 3 ((encInt .i64)).size) ?_
  refine WP.loop (fun m1 g' S' => ∃ (i1 : Int) (i2 : Int) (l1 : (List Int)) (ao5 : Option Addr) (cap5 : Nat) (xs1 : List Value), RL H1 (encInt .i64) l1 xs1 ∧ Sub [(3, (pB b1 0)), (12, (.slice ao5 l1.length cap5)), (13, (.int .i64 i1)), (89, (.slice ao4 r5.1.length cap4)), (90, (.int .i64 (r5.1.length : Int))), (91, (.int .i64 i2)), (1000000007, (.bool false))] g' ∧ (∀ w', S' w' → St w H [.row 3 ((encInt .i64)).size l1.length (.slice ao5 l1.length cap5) xs1, .blk b1 24 [(.int .i64 p_s.actuators), (.slice ao1 p_s.steps.length cap1)]] H1 w') ∧ top_TopMotionsScale_loop1 r5 k1 m1 i1 i2 l1 = some r) ((Int.toNat ((r5.1.length : Int) - 0) + 1)) ⟨0, 0, ([] : List Int), none, 0, [], rl1, (Sub.all rfl), fun w' s => (s.select [0, 3] (by decide) rfl), hm⟩ ?_ ?_
  ·
   rintro g' S' ⟨_, _, _, _, _, _, _, _, _, hm⟩
   exact none_some hm
  rintro m1 g' S' ⟨i1, i2, l1, ao5, cap5, xs1, rl2, hsub1, hS1, hm⟩
  refine WP.sub hsub1 (WP.weaken hS1 ?_)
  rw [top_TopMotionsScale_loop1] at hm
  refine WP.seq (WP.region (V rfl (ov_lss rfl rfl rfl) (WL.nil (tn (WP.seq ?_)))))
  refine WP.cond rfl (fun hc14 => ?_) (fun hc14 => ?_)
  ·
   replace hm := ite_t hc14 hm
   refine WP.skip (tn (WP.seq (WP.block (WP.seq (WP.region ?_)))))
   obtain ⟨x2, e11, hm⟩ := bind_some hm
   obtain ⟨h10, h11, h12, cs2, h13, h14⟩ := h4.get e11 (by decide)
   obtain rfl : cs2 = [(.int .i64 x2)] := h13
   refine V rfl (ov_indexAddr underlying33 sizeOf3 rfl rfl rfl h10 h11 h12) (V rfl (ov_load_elem (v := (.int .i64 x2)) isAgg3 rfl rfl h14) (Va rfl (WL.nil (tn (WP.seq (WP.region (Vm rfl (Vm rfl (Vm rfl (V rfl (ov_sub rfl rfl rfl) ?_))))))))))
   have rl3 : RL H1 (encInt .i64) ([(IntKind.wrap .i64 (x2 - i1))] : List Int) [(.int .i64 (IntKind.wrap .i64 (x2 - i1)))] := RL.cons (cs := [(.int .i64 (IntKind.wrap .i64 (x2 - i1)))]) (xs := []) rfl (RL.nil _ _)
   refine ws rfl (os_buildSlice (cs := [(.int .i64 (IntKind.wrap .i64 (x2 - i1)))]) (E := 3) (sz := 1) rfl rfl (fun _ => by kernel_rfl) rfl (by decide) (fun b4 => ?_))
   obtain ⟨l2, e12, hm⟩ := bind_some hm
   refine ws rfl (os_app (i := 1) (j := 0) (En := (encInt .i64)) (xs := xs1) (ys := [(.int .i64 (IntKind.wrap .i64 (x2 - i1)))]) underlying33 (by kernel_rfl : (prog.info? 3).map (fun i => (i.zero, i.size, i.bytes)) = some (some (.int .i64 0), ((encInt .i64)).size, 8)) rfl (by decide) rfl rfl rfl rfl rfl rfl rl2 rl3 e12 (fun ao6 cap6 rl4 => ?_))
   refine Va rfl (WL.nil (tn (WP.region (Vm rfl (Va rfl (WL.nil (bn (tn (WP.region (V rfl (ov_add rfl rfl rfl) (Vm rfl (WL.nil (tn ?_)))))))))))))
   exact ⟨x2, (IntKind.wrap .i64 (i2 + 1)), (l1 ++ ([(IntKind.wrap .i64 (x2 - i1))] : List Int)), ao6, cap6, (xs1 ++ [(.int .i64 (IntKind.wrap .i64 (x2 - i1)))]), rl4, (Sub.all rfl), fun w' s => (s.select [1, 2] (by decide) rfl), hm⟩
  replace hm := ite_f hc14 hm
  refine WP.exit (then_exit (then_exit (block_here (tn ?_))))
  exact ⟨l1, ao5, cap5, xs1, rl2, (Sub.all rfl), fun w' s => s, hm⟩
 rintro g' S' ⟨l3, ao7, cap7, xs2, rl5, hsub2, hS2, hm⟩
 refine WP.sub hsub2 (WP.weaken hS2 ?_)
 replace hm := (congrFun hk1 l3).symm.trans hm
 refine WP.seq (WP.region (V rfl (ov_load_whole (i := 1) isAgg24 sizeOf24 rfl rfl rfl rfl) (Vm rfl ?_)))
 refine WL.held rl5 (fun H2 hc15 hle2 h15 => ?_)
 replace h1 := h1.mono hle2
 replace hG := hG.mono hle2
 obtain ⟨r8, e13, hm⟩ := bind_some hm
 refine ws rfl (os_con call10 rfl rfl (fun w' s => (diagram_Scale_con p_s l3 20 ao1 cap1 ao7 cap7  w' H2 s.hold h1 hc1 h15 hc15 hG r8 e13)) (fun rr2 H3 hle3 hR2 => ?_))
 replace h15 := h15.mono hle3
 replace hG := hG.mono hle3
 obtain ⟨ao8, cap8, rfl, h16, hc16⟩ := hR2
 refine Vm rfl (Ve rfl (Ve rfl (Va rfl (Va rfl (WL.nil (tn (WP.seq (WP.region (Vm rfl ?_)))))))))
 obtain ⟨r9, e14, hm⟩ := bind_some hm
 refine ws rfl (os_con call11 rfl rfl (fun w' s => (diagram_Unscale_con r8.1 ao8 cap8  w' H3 s.hold h16 hc16 hG r9 e14)) (fun rr3 H4 hle4 hR3 => ?_))
 replace h15 := h15.mono hle4
 replace hG := hG.mono hle4
 obtain ⟨ao9, cap9, ao10, cap10, rfl, h17, hc17, h18, hc18⟩ := hR3
 refine Vm rfl (Ve rfl (Ve rfl (Ve rfl ?_)))
 refine ws rfl (os_alloc (cs := [(.int .i64 0), (.slice none 0 0)]) zeroValue24 rfl rfl (fun b5 => ?_))
 refine ws0 rfl (os_store (i := 0) (vs := [(.int .i64 r9.1.actuators), (.slice ao9 r9.1.steps.length cap9)]) (cs' := [(.int .i64 r9.1.actuators), (.slice ao9 r9.1.steps.length cap9)]) sizeOf24 rfl rfl rfl rfl rfl rfl rfl rfl rfl ?_)
 refine Va rfl (Va rfl (WL.nil (tn (WP.seq (WP.seq (WP.region (Vm rfl (Vm rfl (V rfl (ov_add rfl rfl rfl) (V rfl (ov_neq rfl rfl rfl) (Vm rfl ?_)))))))))))
 refine WL.cut_bool 6 125 (x := (((IntKind.wrap .i64 (r8.2 + r9.2.2)) != 0) || ((r9.2.1.length : Int) != (l3.length : Int)))) ?_ ?_
 ·
  rcases Bool.eq_false_or_eq_true ((IntKind.wrap .i64 (r8.2 + r9.2.2)) != 0) with hc19 | hc19
  ·
   refine Vi rfl (Idle.no rfl rfl rfl hc19) (Vi rfl (Idle.no rfl rfl rfl hc19) (Vi rfl (Idle.no rfl rfl rfl hc19) (Vi rfl (Idle.no rfl rfl rfl hc19) (Vi rfl (Idle.no rfl rfl rfl hc19) (V rfl (ov_pick_true rfl (guard_eq rfl hc19) rfl) ?_)))))
   exact WL.nil ⟨Sub.cons' rfl (congrArg Value.bool (orT hc19)) (Sub.dropn 6 rfl), fun _ s => s⟩
  refine wy hc19 rfl (ov_move rfl rfl) ?_
  refine wy hc19 rfl (ov_len_slice underlying33 rfl rfl) ?_
  refine wy hc19 rfl (ov_move rfl rfl) ?_
  refine wy hc19 rfl (ov_len_slice underlying33 rfl rfl) ?_
  refine wy hc19 rfl (ov_neq rfl rfl rfl) ?_
  refine V rfl (ov_pick_false rfl (guard_eq rfl hc19) rfl) ?_
  exact WL.nil ⟨Sub.cons' rfl (congrArg Value.bool (orF hc19)) (Sub.dropn 6 rfl), fun _ s => s⟩
 refine WL.nil (tn ?_)
 refine WP.cond rfl (fun hc20 => ?_) (fun hc20 => ?_)
 ·
  replace hm := ite_t hc20 hm
  refine WP.seq (WP.region (Va rfl (WL.nil (tn (WP.ret (then_ret ?_))))))
  obtain rfl := Option.some.inj hm
  refine retQ_ret results3 (Res.tmp rfl Res.nil) rfl (fun w' s => ⟨s.below, ?_⟩)
  exact rfl
 replace hm := ite_f hc20 hm
 refine WP.skip (tn ?_)
 obtain ⟨k2, hk2, hm⟩ := joinK_some hm
 refine WP.seq_join (fun g' S' => Sub [(1000000007, (.bool false))] g' ∧ (∀ w', S' w' → St w H [] H4 w') ∧ k2 = some r) ?_ ?_
 ·
  refine WP.seq (WP.region (Vm rfl (V rfl (ov_len_slice underlying33 rfl rfl) (Vm rfl (WL.nil (tn (WP.block ?_)))))))
  refine WP.loop (fun m2 g' S' => ∃ (i3 : Int), Sub [(18, (.slice ao10 r9.2.1.length cap10)), (126, (.slice ao7 l3.length cap7)), (127, (.int .i64 (l3.length : Int))), (128, (.int .i64 i3)), (1000000007, (.bool false))] g' ∧ (∀ w', S' w' → St w H [] H4 w') ∧ top_TopMotionsScale_loop2 l3 r9 k2 m2 i3 = some r) ((Int.toNat ((l3.length : Int) - 0) + 1)) ⟨0, (Sub.all rfl), fun w' s => (s.select [] (by decide) rfl), hm⟩ ?_ ?_
  ·
   rintro g' S' ⟨_, _, _, hm⟩
   exact none_some hm
  rintro m2 g' S' ⟨i3, hsub3, hS3, hm⟩
  refine WP.sub hsub3 (WP.weaken hS3 ?_)
  rw [top_TopMotionsScale_loop2] at hm
  refine WP.seq (WP.region (V rfl (ov_lss rfl rfl rfl) (WL.nil (tn (WP.seq ?_)))))
  refine WP.cond rfl (fun hc21 => ?_) (fun hc21 => ?_)
  ·
   replace hm := ite_t hc21 hm
   refine WP.skip (tn (WP.seq (WP.block (WP.seq (WP.region (Vm rfl ?_))))))
   obtain ⟨x3, e15, hm⟩ := bind_some hm
   obtain ⟨h19, h20, h21, cs3, h22, h23⟩ := h15.get e15 (by decide)
   obtain rfl : cs3 = [(.int .i64 x3)] := h22
   refine V rfl (ov_indexAddr underlying33 sizeOf3 rfl rfl rfl h19 h20 h21) (V rfl (ov_load_elem (v := (.int .i64 x3)) isAgg3 rfl rfl h23) (Va rfl (Va rfl (WL.nil (tn (WP.seq (WP.region (Vm rfl (Vm rfl ?_)))))))))
   obtain ⟨x4, e16, hm⟩ := bind_some hm
   obtain ⟨h24, h25, h26, cs4, h27, h28⟩ := h18.get e16 (by decide)
   obtain rfl : cs4 = [(.int .i64 x4)] := h27
   refine V rfl (ov_indexAddr underlying33 sizeOf3 rfl rfl rfl h24 h25 h26) (V rfl (ov_load_elem (v := (.int .i64 x4)) isAgg3 rfl rfl h28) (Vm rfl (V rfl (ov_add rfl rfl rfl) (V rfl (ov_quo rfl rfl rfl (by decide)) (V rfl (ov_max rfl rfl rfl) (V rfl (ov_neq rfl rfl rfl) (WL.nil (tn ?_))))))))
   refine WP.cond rfl (fun hc22 => ?_) (fun hc22 => ?_)
   ·
    replace hm := ite_t hc22 hm
    refine WP.seq (WP.region (Va rfl (WL.nil (tn (WP.ret (block_ret (then_ret (then_ret (block_ret (then_ret ?_))))))))))
    obtain rfl := Option.some.inj hm
    refine retQ_ret results3 (Res.tmp rfl Res.nil) rfl (fun w' s => ⟨s.below, ?_⟩)
    exact rfl
   replace hm := ite_f hc22 hm
   refine WP.skip (bn (tn (WP.region (V rfl (ov_add rfl rfl rfl) (Vm rfl (WL.nil (tn ?_)))))))
   exact ⟨(IntKind.wrap .i64 (i3 + 1)), (Sub.all rfl), fun w' s => s, hm⟩
  replace hm := ite_f hc21 hm
  refine WP.exit (then_exit (then_exit (block_here (tn ?_))))
  exact ⟨(Sub.all rfl), fun w' s => s, hm⟩
 rintro g' S' ⟨hsub4, hS4, hm⟩
 refine WP.sub hsub4 (WP.weaken hS4 ?_)
 replace hm := hk2.symm.trans hm
 refine WP.seq (WP.region ?_)
 obtain ⟨r10, e17, hm⟩ := bind_some hm
 refine wo rfl (oq_con (r := (.bool r10)) call7 rfl rfl (fun w' s => ⟨_, (top_runMotion_con   w' H4 s.hold hG r10 e17)⟩)) ?_
 refine Va rfl (WL.nil (tn (WP.ret ?_)))
 obtain rfl := Option.some.inj hm
 refine retQ_ret results3 (Res.tmp rfl Res.nil) rfl (fun w' s => ⟨s.below, ?_⟩)
 exact rfl
end Go.Proofs.YtkgijoddkibapaaGreatDoor.W
